-- Written by a program of this session (wip/tools/myprint.py), in the form of the kit's print. Not trusted: Lean checks it.
import Derived.Test.YtalpoojepffldaaDoorMax0
import Derived.Test.YtalpoojepffldaaDoorMax12
import Derived.Test.YtalpoojepffldaaDoorMax13
namespace Go.Proofs.YtalpoojepffldaaDoor.Ma
open Go.RowKit Go.Proofs.YtalpoojepffldaaDoorW.PrintWords Go.Proofs.YtalpoojepffldaaDoorW.PrintLast Go.Proofs.YtalpoojepffldaaDoorW.PrintMore
attribute [local go_sem] max2_int min2_int max_two min_two max_three min_three max_four min_four   -- for this text's walks alone
set_option linter.unusedVariables false
set_option linter.unusedSimpArgs false

/-! ### event_named: function 36 -/
def event_named.j0 : Nat → Bool → Int → ByteArray → ByteArray → Int → Int → ByteArray → Int → Int → Int → Int → Int → ByteArray → ByteArray → List (S39) → Int → Option (Bool)
  | 0, _, _, _, _, _, _, _, _, _, _, _, _, _, _, _, _ => none
  | k + 1, x13, x151000, x151001, x151002, x151003, x151004, x151005, x151006, x151007, x151008, x151009, x151010, x151011, x151012, x151013, x151014 => if x13 = true then ((label_Split.f x151001).bind fun bt151 => (some bt151.2.2)) else ((label_Name.f x151001).bind fun t154 => (some t154))
def event_named.f (k : Nat) (a0_0 : Int) (a0_1 : ByteArray) (a0_2 : ByteArray) (a0_3 : Int) (a0_4 : Int) (a0_5 : ByteArray) (a0_6 : Int) (a0_7 : Int) (a0_8 : Int) (a0_9 : Int) (a0_10 : Int) (a0_11 : ByteArray) (a0_12 : ByteArray) (l0_13 : List (S39)) (a0_14 : Int) : Option (Bool) := if a0_0 = 12 then (event_named.j0 k true a0_0 a0_1 a0_2 a0_3 a0_4 a0_5 a0_6 a0_7 a0_8 a0_9 a0_10 a0_11 a0_12 l0_13 a0_14) else (event_named.j0 k (a0_0 == 13) a0_0 a0_1 a0_2 a0_3 a0_4 a0_5 a0_6 a0_7 a0_8 a0_9 a0_10 a0_11 a0_12 l0_13 a0_14)
theorem event_named.mono_l : ∀ k, (∀ y0 y1 y2 y3 y4 y5 y6 y7 y8 y9 y10 y11 y12 y13 y14 y15, LeO (event_named.j0 k y0 y1 y2 y3 y4 y5 y6 y7 y8 y9 y10 y11 y12 y13 y14 y15) (event_named.j0 (k + 1) y0 y1 y2 y3 y4 y5 y6 y7 y8 y9 y10 y11 y12 y13 y14 y15))
  | 0 => fun _ _ _ _ _ _ _ _ _ _ _ _ _ _ _ _ r h => by simp [event_named.j0] at h
  | k + 1 => by
    have ih0 := event_named.mono_l k
    · intro y0 y1 y2 y3 y4 y5 y6 y7 y8 y9 y10 y11 y12 y13 y14 y15
      unfold event_named.j0
      repeat' first
      | (with_reducible exact ih0 _ _ _ _ _ _ _ _ _ _ _ _ _ _ _ _)
      | (with_reducible exact LeO.refl _)
      | (with_reducible exact LeO.none _)
      | (with_reducible refine LeO.ite ?_ ?_)
      | (with_reducible refine LeO.bind ?_ (fun _ => ?_))
      | exact ih0 _ _ _ _ _ _ _ _ _ _ _ _ _ _ _ _
      | exact LeO.none _
      | refine LeO.ite ?_ ?_
      | refine LeO.bind ?_ (fun _ => ?_)
theorem event_named.mono : ∀ a0 a1 a2 a3 a4 a5 a6 a7 a8 a9 a10 a11 a12 a13 a14 k, LeO (event_named.f k a0 a1 a2 a3 a4 a5 a6 a7 a8 a9 a10 a11 a12 a13 a14) (event_named.f (k + 1) a0 a1 a2 a3 a4 a5 a6 a7 a8 a9 a10 a11 a12 a13 a14) := by
  intro a0 a1 a2 a3 a4 a5 a6 a7 a8 a9 a10 a11 a12 a13 a14 k
  have ih0 := event_named.mono_l k
  unfold event_named.f
  repeat' first
      | (with_reducible exact ih0 _ _ _ _ _ _ _ _ _ _ _ _ _ _ _ _)
      | (with_reducible exact LeO.refl _)
      | (with_reducible exact LeO.none _)
      | (with_reducible refine LeO.ite ?_ ?_)
      | (with_reducible refine LeO.bind ?_ (fun _ => ?_))
      | exact ih0 _ _ _ _ _ _ _ _ _ _ _ _ _ _ _ _
      | exact LeO.none _
      | refine LeO.ite ?_ ?_
      | refine LeO.bind ?_ (fun _ => ?_)
set_option maxHeartbeats 8000000 in
set_option maxRecDepth 100000 in
theorem event_named.calls (k : Nat) (a0_0 : Int) (a0_1 : ByteArray) (a0_2 : ByteArray) (a0_3 : Int) (a0_4 : Int) (a0_5 : ByteArray) (a0_6 : Int) (a0_7 : Int) (a0_8 : Int) (a0_9 : Int) (a0_10 : Int) (a0_11 : ByteArray) (a0_12 : ByteArray) (A0_13 : Option Addr) (c0_13 : Nat) (l0_13 : List (S39)) (a0_14 : Int) (r : Bool) (w : World) (hLd_ : Aside0 (LaidW w)) (hr0_13 : Kd.C k39 w A0_13 l0_13.length l0_13) (hc0_13 : l0_13.length ≤ c0_13) (h : event_named.f k a0_0 a0_1 a0_2 a0_3 a0_4 a0_5 a0_6 a0_7 a0_8 a0_9 a0_10 a0_11 a0_12 l0_13 a0_14 = some r) :
    Calls Tryd.prog 36 #[.agg #[.int .i64 a0_0, .string a0_1, .string a0_2, .int .i64 a0_3, .int .i64 a0_4, .string a0_5, .int .i64 a0_6, .int .i64 a0_7, .int .i64 a0_8, .int .i64 a0_9, .int .i64 a0_10, .string a0_11, .string a0_12, .slice A0_13 l0_13.length c0_13, .int .i64 a0_14]] w fun e w' => e = .returned (.bool r) ∧ Below w.heap.size w w' := by
  have hu28 := Tryd.underlying28
  have HR0_13 := Aside0.mk hr0_13
  have HC0_13 := Aside0.mk hc0_13
  clear hr0_13 hc0_13
  have HB := Aside0.mk (Below.refl w.heap.size w)
  have H : (if a0_0 = 12 then (event_named.j0 k true a0_0 a0_1 a0_2 a0_3 a0_4 a0_5 a0_6 a0_7 a0_8 a0_9 a0_10 a0_11 a0_12 l0_13 a0_14) else (event_named.j0 k (a0_0 == 13) a0_0 a0_1 a0_2 a0_3 a0_4 a0_5 a0_6 a0_7 a0_8 a0_9 a0_10 a0_11 a0_12 l0_13 a0_14)) = some r := h
  clear h
  have HC2 := Aside0.mk H
  clear H
  go_enter Tryd.func36, Tryd.ntmps36
  go_upto_region 1 with (first | ((with_reducible refine gate_dst (N := 1) rfl ?_); refine box_event ?hg (N := 1) ?hd (cs := #[.int .i64 a0_0, .string a0_1, .string a0_2, .int .i64 a0_3, .int .i64 a0_4, .string a0_5, .int .i64 a0_6, .int .i64 a0_7, .int .i64 a0_8, .int .i64 a0_9, .int .i64 a0_10, .string a0_11, .string a0_12, .slice A0_13 l0_13.length c0_13, .int .i64 a0_14]) (t := 28) ?hr ?_; (case hd => rfl); (case hg => rfl); (case hr => first | (go_simp; done) | (go_simp; rfl)); intro gb150 hg w3 hbox hb; have n0_ := Aside0.mk (below_step (by repeat (first | (with_reducible first | exact HB.out | apply below_alloc | apply pw_below_drewN | apply below_drew1) | exact HB.out)) hb); have n1_ := Aside0.mk (hbox); have n2_ := Aside0.mk ((by rw [hg]; exact (below_size (by repeat (first | (with_reducible first | exact HB.out | apply below_alloc | apply pw_below_drewN | apply below_drew1) | exact HB.out))) : w.heap.size ≤ gb150)); have n3_ := Aside0.mk ((by rw [hg]; exact (below_size (by repeat (first | (with_reducible first | exact HB.out | apply below_alloc | apply pw_below_drewN | apply below_drew1) | exact HB.out))) : w.heap.size ≤ gb150)); clear HB; have HB := n0_; have BK150 := n1_; have GW150 := n2_; have GE150 := n3_; clear n0_ n1_ n2_ n3_; clear hb hbox hg))
  (try simp only [Act.put, List.setIfInBounds_toArray, List.set_cons_zero, List.set_cons_succ])
  go_cut [13] (fun v13 wc => ∃ (kq : Nat) (x13_1 : Bool), v13 = .bool x13_1 ∧ Aside0 (event_named.j0 kq x13_1 a0_0 a0_1 a0_2 a0_3 a0_4 a0_5 a0_6 a0_7 a0_8 a0_9 a0_10 a0_11 a0_12 l0_13 a0_14 = some r) ∧ Aside0 (kq ≤ k) ∧ Aside0 (wc.heap[gb150]? = some (.cells #[.int .i64 a0_0, .string a0_1, .string a0_2, .int .i64 a0_3, .int .i64 a0_4, .string a0_5, .int .i64 a0_6, .int .i64 a0_7, .int .i64 a0_8, .int .i64 a0_9, .int .i64 a0_10, .string a0_11, .string a0_12, (.slice A0_13 l0_13.length c0_13), .int .i64 a0_14] 28 (0, 0))) ∧ Aside0 (Below w.heap.size w wc))
  case first =>
    have H := HC2.out
    clear HC2
    by_cases c4 : a0_0 = 12
    · rw [if_pos c4] at H
      have c4b0 : (a0_0 == 12) = true := beq_iff_eq.mpr c4
      have c4b1 : (a0_0 != 12) = false := bne_eq_false_iff_eq.mpr c4
      clear c4
      (first | rw [c4b0] | (simp only [i64_w, i32_w]; rw [c4b0]) | rw [c4b1] | skip)
      have H' := Aside0.mk H
      clear H
      have hcz5_0 : w3.cell? ⟨gb150, 0, none⟩ = some (.int .i64 a0_0) := bc BK150 0
      have hcz5_1 : w3.cell? ⟨gb150, 1, none⟩ = some (.string a0_1) := bc BK150 1
      have hcz5_2 : w3.cell? ⟨gb150, 2, none⟩ = some (.string a0_2) := bc BK150 2
      have hcz5_3 : w3.cell? ⟨gb150, 3, none⟩ = some (.int .i64 a0_3) := bc BK150 3
      have hcz5_4 : w3.cell? ⟨gb150, 4, none⟩ = some (.int .i64 a0_4) := bc BK150 4
      have hcz5_5 : w3.cell? ⟨gb150, 5, none⟩ = some (.string a0_5) := bc BK150 5
      have hcz5_6 : w3.cell? ⟨gb150, 6, none⟩ = some (.int .i64 a0_6) := bc BK150 6
      have hcz5_7 : w3.cell? ⟨gb150, 7, none⟩ = some (.int .i64 a0_7) := bc BK150 7
      have hcz5_8 : w3.cell? ⟨gb150, 8, none⟩ = some (.int .i64 a0_8) := bc BK150 8
      have hcz5_9 : w3.cell? ⟨gb150, 9, none⟩ = some (.int .i64 a0_9) := bc BK150 9
      have hcz5_10 : w3.cell? ⟨gb150, 10, none⟩ = some (.int .i64 a0_10) := bc BK150 10
      have hcz5_11 : w3.cell? ⟨gb150, 11, none⟩ = some (.string a0_11) := bc BK150 11
      have hcz5_12 : w3.cell? ⟨gb150, 12, none⟩ = some (.string a0_12) := bc BK150 12
      have hcz5_13 : w3.cell? ⟨gb150, 13, none⟩ = some (.slice A0_13 l0_13.length c0_13) := bc BK150 13
      have hcz5_14 : w3.cell? ⟨gb150, 14, none⟩ = some (.int .i64 a0_14) := bc BK150 14
      have hfz5_0 := blk_frozen BK150.out 0
      have hfz5_1 := blk_frozen BK150.out 1
      have hfz5_2 := blk_frozen BK150.out 2
      have hfz5_3 := blk_frozen BK150.out 3
      have hfz5_4 := blk_frozen BK150.out 4
      have hfz5_5 := blk_frozen BK150.out 5
      have hfz5_6 := blk_frozen BK150.out 6
      have hfz5_7 := blk_frozen BK150.out 7
      have hfz5_8 := blk_frozen BK150.out 8
      have hfz5_9 := blk_frozen BK150.out 9
      have hfz5_10 := blk_frozen BK150.out 10
      have hfz5_11 := blk_frozen BK150.out 11
      have hfz5_12 := blk_frozen BK150.out 12
      have hfz5_13 := blk_frozen BK150.out 13
      have hfz5_14 := blk_frozen BK150.out 14
      go_wp2
      go_meet
      case rel => exact ⟨_, (true), (by first | rfl | (simp; done) | (simp [*]; done)), H', ⟨by first | omega | exact Nat.le_refl _⟩, ⟨by (with_reducible repeat (first | refine blk_drewN ?_ _ | refine blk_drew ?_ | refine blk_alloc ?_ _)); exact BK150.out⟩, ⟨by repeat (first | (with_reducible first | exact HB.out | apply below_alloc | apply pw_below_drewN | apply below_drew1 | refine below_set ?_ GE150.out) | exact HB.out)⟩⟩
    · rw [if_neg c4] at H
      have c4b0 : (a0_0 == 12) = false := beq_eq_false_iff_ne.mpr c4
      have c4b1 : (a0_0 != 12) = true := bne_iff_ne.mpr c4
      (first | rw [c4b0] | (simp only [i64_w, i32_w]; rw [c4b0]) | rw [c4b1] | skip)
      have H' := Aside0.mk H
      clear H
      have hcz6_0 : w3.cell? ⟨gb150, 0, none⟩ = some (.int .i64 a0_0) := bc BK150 0
      have hcz6_1 : w3.cell? ⟨gb150, 1, none⟩ = some (.string a0_1) := bc BK150 1
      have hcz6_2 : w3.cell? ⟨gb150, 2, none⟩ = some (.string a0_2) := bc BK150 2
      have hcz6_3 : w3.cell? ⟨gb150, 3, none⟩ = some (.int .i64 a0_3) := bc BK150 3
      have hcz6_4 : w3.cell? ⟨gb150, 4, none⟩ = some (.int .i64 a0_4) := bc BK150 4
      have hcz6_5 : w3.cell? ⟨gb150, 5, none⟩ = some (.string a0_5) := bc BK150 5
      have hcz6_6 : w3.cell? ⟨gb150, 6, none⟩ = some (.int .i64 a0_6) := bc BK150 6
      have hcz6_7 : w3.cell? ⟨gb150, 7, none⟩ = some (.int .i64 a0_7) := bc BK150 7
      have hcz6_8 : w3.cell? ⟨gb150, 8, none⟩ = some (.int .i64 a0_8) := bc BK150 8
      have hcz6_9 : w3.cell? ⟨gb150, 9, none⟩ = some (.int .i64 a0_9) := bc BK150 9
      have hcz6_10 : w3.cell? ⟨gb150, 10, none⟩ = some (.int .i64 a0_10) := bc BK150 10
      have hcz6_11 : w3.cell? ⟨gb150, 11, none⟩ = some (.string a0_11) := bc BK150 11
      have hcz6_12 : w3.cell? ⟨gb150, 12, none⟩ = some (.string a0_12) := bc BK150 12
      have hcz6_13 : w3.cell? ⟨gb150, 13, none⟩ = some (.slice A0_13 l0_13.length c0_13) := bc BK150 13
      have hcz6_14 : w3.cell? ⟨gb150, 14, none⟩ = some (.int .i64 a0_14) := bc BK150 14
      have hfz6_0 := blk_frozen BK150.out 0
      have hfz6_1 := blk_frozen BK150.out 1
      have hfz6_2 := blk_frozen BK150.out 2
      have hfz6_3 := blk_frozen BK150.out 3
      have hfz6_4 := blk_frozen BK150.out 4
      have hfz6_5 := blk_frozen BK150.out 5
      have hfz6_6 := blk_frozen BK150.out 6
      have hfz6_7 := blk_frozen BK150.out 7
      have hfz6_8 := blk_frozen BK150.out 8
      have hfz6_9 := blk_frozen BK150.out 9
      have hfz6_10 := blk_frozen BK150.out 10
      have hfz6_11 := blk_frozen BK150.out 11
      have hfz6_12 := blk_frozen BK150.out 12
      have hfz6_13 := blk_frozen BK150.out 13
      have hfz6_14 := blk_frozen BK150.out 14
      go_wp2
      go_meet
      case rel => exact ⟨_, ((a0_0 == 13)), (by first | rfl | (simp; done) | (simp [*]; done)), H', ⟨by first | omega | exact Nat.le_refl _⟩, ⟨by (with_reducible repeat (first | refine blk_drewN ?_ _ | refine blk_drew ?_ | refine blk_alloc ?_ _)); exact BK150.out⟩, ⟨by repeat (first | (with_reducible first | exact HB.out | apply below_alloc | apply pw_below_drewN | apply below_drew1 | refine below_set ?_ GE150.out) | exact HB.out)⟩⟩
  case rest =>
    clear HC2
    try clear p2
    try clear c3
    try clear c4
    try clear c4b0
    try clear c4b1
    try clear hcz5_0
    try clear hcz5_1
    try clear hcz5_10
    try clear hcz5_11
    try clear hcz5_12
    try clear hcz5_13
    try clear hcz5_14
    try clear hcz5_2
    try clear hcz5_3
    try clear hcz5_4
    try clear hcz5_5
    try clear hcz5_6
    try clear hcz5_7
    try clear hcz5_8
    try clear hcz5_9
    try clear hcz6_0
    try clear hcz6_1
    try clear hcz6_10
    try clear hcz6_11
    try clear hcz6_12
    try clear hcz6_13
    try clear hcz6_14
    try clear hcz6_2
    try clear hcz6_3
    try clear hcz6_4
    try clear hcz6_5
    try clear hcz6_6
    try clear hcz6_7
    try clear hcz6_8
    try clear hcz6_9
    try clear hfz5_0
    try clear hfz5_1
    try clear hfz5_10
    try clear hfz5_11
    try clear hfz5_12
    try clear hfz5_13
    try clear hfz5_14
    try clear hfz5_2
    try clear hfz5_3
    try clear hfz5_4
    try clear hfz5_5
    try clear hfz5_6
    try clear hfz5_7
    try clear hfz5_8
    try clear hfz5_9
    try clear hfz6_0
    try clear hfz6_1
    try clear hfz6_10
    try clear hfz6_11
    try clear hfz6_12
    try clear hfz6_13
    try clear hfz6_14
    try clear hfz6_2
    try clear hfz6_3
    try clear hfz6_4
    try clear hfz6_5
    try clear hfz6_6
    try clear hfz6_7
    try clear hfz6_8
    try clear hfz6_9
    obtain ⟨kq, x13_1, rfl, HA, HJ1, BK150, HB⟩ := hcut
    cases kq with
    | zero => exact absurd HA.out (by simp [event_named.j0])
    | succ kj1 =>
      have H := HA.out
      clear HA
      simp only [event_named.j0] at H
      by_cases c7 : x13_1 = true
      · subst c7
        have H1 : ((label_Split.f a0_1).bind fun bt151 => (some bt151.2.2)) = some r := by rw [if_pos rfl] at H; exact H
        clear H
        have H := H1
        clear H1
        replace H := Option.bind_eq_some_iff.mp H
        obtain ⟨⟨t151, t152, t153⟩, A80, H⟩ := H
        replace H : (some t153) = some r := H
        have A8 := Aside0.mk A80
        clear A80
        obtain rfl := Option.some.inj H
        have hcz9_0 : wc.cell? ⟨gb150, 0, none⟩ = some (.int .i64 a0_0) := bc BK150 0
        have hcz9_1 : wc.cell? ⟨gb150, 1, none⟩ = some (.string a0_1) := bc BK150 1
        have hcz9_2 : wc.cell? ⟨gb150, 2, none⟩ = some (.string a0_2) := bc BK150 2
        have hcz9_3 : wc.cell? ⟨gb150, 3, none⟩ = some (.int .i64 a0_3) := bc BK150 3
        have hcz9_4 : wc.cell? ⟨gb150, 4, none⟩ = some (.int .i64 a0_4) := bc BK150 4
        have hcz9_5 : wc.cell? ⟨gb150, 5, none⟩ = some (.string a0_5) := bc BK150 5
        have hcz9_6 : wc.cell? ⟨gb150, 6, none⟩ = some (.int .i64 a0_6) := bc BK150 6
        have hcz9_7 : wc.cell? ⟨gb150, 7, none⟩ = some (.int .i64 a0_7) := bc BK150 7
        have hcz9_8 : wc.cell? ⟨gb150, 8, none⟩ = some (.int .i64 a0_8) := bc BK150 8
        have hcz9_9 : wc.cell? ⟨gb150, 9, none⟩ = some (.int .i64 a0_9) := bc BK150 9
        have hcz9_10 : wc.cell? ⟨gb150, 10, none⟩ = some (.int .i64 a0_10) := bc BK150 10
        have hcz9_11 : wc.cell? ⟨gb150, 11, none⟩ = some (.string a0_11) := bc BK150 11
        have hcz9_12 : wc.cell? ⟨gb150, 12, none⟩ = some (.string a0_12) := bc BK150 12
        have hcz9_13 : wc.cell? ⟨gb150, 13, none⟩ = some (.slice A0_13 l0_13.length c0_13) := bc BK150 13
        have hcz9_14 : wc.cell? ⟨gb150, 14, none⟩ = some (.int .i64 a0_14) := bc BK150 14
        have hfz9_0 := blk_frozen BK150.out 0
        have hfz9_1 := blk_frozen BK150.out 1
        have hfz9_2 := blk_frozen BK150.out 2
        have hfz9_3 := blk_frozen BK150.out 3
        have hfz9_4 := blk_frozen BK150.out 4
        have hfz9_5 := blk_frozen BK150.out 5
        have hfz9_6 := blk_frozen BK150.out 6
        have hfz9_7 := blk_frozen BK150.out 7
        have hfz9_8 := blk_frozen BK150.out 8
        have hfz9_9 := blk_frozen BK150.out 9
        have hfz9_10 := blk_frozen BK150.out 10
        have hfz9_11 := blk_frozen BK150.out 11
        have hfz9_12 := blk_frozen BK150.out 12
        have hfz9_13 := blk_frozen BK150.out 13
        have hfz9_14 := blk_frozen BK150.out 14
        go_wp2_with (first | ((with_reducible refine gate_callee (f := 69) rfl ?_); refine goesL_ (some 17) rfl rfl Tryd.func69 (by kernel_rfl) rfl #[.string a0_1] rfl (by (try simp only [List.map_toArray, List.map_cons, List.map_nil]); first | done | rfl | (simp only [List.length_drop, List.length_take]; rfl)) ?_; (with_reducible refine (label_Split.calls a0_1 t151 t152 t153 _ ?side1 A8.out).mono ?_); (case side1 => first | exact hLd_.out | exact hLd_ | exact ⟨LaidW.below hLd_.out (by repeat (first | (with_reducible first | exact HB.out | apply below_alloc | apply pw_below_drewN | apply below_drew1 | refine below_set ?_ GE150.out) | exact HB.out))⟩ | exact ⟨LaidW.below hLd_.out (by repeat (first | exact Below.refl _ _ | apply below_alloc | apply pw_below_drewN | apply below_drew1))⟩); rintro e w10 ⟨rfl, hb⟩; refine ⟨_, rfl, ?_⟩; have n0_ := Aside0.mk (blk_below (g := gb150) (pk BK150) hb); have n1_ := Aside0.mk (below_step (by repeat (first | (with_reducible first | exact HB.out | apply below_alloc | apply pw_below_drewN | apply below_drew1 | refine below_set ?_ GE150.out) | exact HB.out)) hb); clear BK150; clear HB; have BK150 := n0_; have HB := n1_; clear n0_ n1_; (try clear hb); (try clear hb2); (try clear hk); (try clear hi)))
        go_ret
        exact ⟨by first | rfl | (simp [errW_none, errW_some] <;> rfl) | (simp [*, errW_none, errW_some] <;> rfl), by repeat (first | (with_reducible first | exact HB.out | apply below_alloc | apply pw_below_drewN | apply below_drew1 | refine below_set ?_ GE150.out) | exact HB.out)⟩
      · replace c7 := Bool.eq_false_iff.mpr c7
        subst c7
        have H1 : ((label_Name.f a0_1).bind fun t154 => (some t154)) = some r := by rw [if_neg (show ¬ (false = true) by decide)] at H; exact H
        clear H
        have H := H1
        clear H1
        replace H := Option.bind_eq_some_iff.mp H
        obtain ⟨t154, A110, H⟩ := H
        replace H : (some t154) = some r := H
        have A11 := Aside0.mk A110
        clear A110
        obtain rfl := Option.some.inj H
        have hcz12_0 : wc.cell? ⟨gb150, 0, none⟩ = some (.int .i64 a0_0) := bc BK150 0
        have hcz12_1 : wc.cell? ⟨gb150, 1, none⟩ = some (.string a0_1) := bc BK150 1
        have hcz12_2 : wc.cell? ⟨gb150, 2, none⟩ = some (.string a0_2) := bc BK150 2
        have hcz12_3 : wc.cell? ⟨gb150, 3, none⟩ = some (.int .i64 a0_3) := bc BK150 3
        have hcz12_4 : wc.cell? ⟨gb150, 4, none⟩ = some (.int .i64 a0_4) := bc BK150 4
        have hcz12_5 : wc.cell? ⟨gb150, 5, none⟩ = some (.string a0_5) := bc BK150 5
        have hcz12_6 : wc.cell? ⟨gb150, 6, none⟩ = some (.int .i64 a0_6) := bc BK150 6
        have hcz12_7 : wc.cell? ⟨gb150, 7, none⟩ = some (.int .i64 a0_7) := bc BK150 7
        have hcz12_8 : wc.cell? ⟨gb150, 8, none⟩ = some (.int .i64 a0_8) := bc BK150 8
        have hcz12_9 : wc.cell? ⟨gb150, 9, none⟩ = some (.int .i64 a0_9) := bc BK150 9
        have hcz12_10 : wc.cell? ⟨gb150, 10, none⟩ = some (.int .i64 a0_10) := bc BK150 10
        have hcz12_11 : wc.cell? ⟨gb150, 11, none⟩ = some (.string a0_11) := bc BK150 11
        have hcz12_12 : wc.cell? ⟨gb150, 12, none⟩ = some (.string a0_12) := bc BK150 12
        have hcz12_13 : wc.cell? ⟨gb150, 13, none⟩ = some (.slice A0_13 l0_13.length c0_13) := bc BK150 13
        have hcz12_14 : wc.cell? ⟨gb150, 14, none⟩ = some (.int .i64 a0_14) := bc BK150 14
        have hfz12_0 := blk_frozen BK150.out 0
        have hfz12_1 := blk_frozen BK150.out 1
        have hfz12_2 := blk_frozen BK150.out 2
        have hfz12_3 := blk_frozen BK150.out 3
        have hfz12_4 := blk_frozen BK150.out 4
        have hfz12_5 := blk_frozen BK150.out 5
        have hfz12_6 := blk_frozen BK150.out 6
        have hfz12_7 := blk_frozen BK150.out 7
        have hfz12_8 := blk_frozen BK150.out 8
        have hfz12_9 := blk_frozen BK150.out 9
        have hfz12_10 := blk_frozen BK150.out 10
        have hfz12_11 := blk_frozen BK150.out 11
        have hfz12_12 := blk_frozen BK150.out 12
        have hfz12_13 := blk_frozen BK150.out 13
        have hfz12_14 := blk_frozen BK150.out 14
        go_wp2_with (first | ((with_reducible refine gate_callee (f := 70) rfl ?_); refine goesL_ (some 24) rfl rfl Tryd.func70 (by kernel_rfl) rfl #[.string a0_1] rfl (by (try simp only [List.map_toArray, List.map_cons, List.map_nil]); first | done | rfl | (simp only [List.length_drop, List.length_take]; rfl)) ?_; (with_reducible refine (label_Name.calls a0_1 t154 _ A11.out).mono ?_); rintro e w13 ⟨rfl, hb⟩; refine ⟨_, rfl, ?_⟩; have n0_ := Aside0.mk (blk_below (g := gb150) (pk BK150) hb); have n1_ := Aside0.mk (below_step (by repeat (first | (with_reducible first | exact HB.out | apply below_alloc | apply pw_below_drewN | apply below_drew1 | refine below_set ?_ GE150.out) | exact HB.out)) hb); clear BK150; clear HB; have BK150 := n0_; have HB := n1_; clear n0_ n1_; (try clear hb); (try clear hb2); (try clear hk); (try clear hi)))
        go_ret
        exact ⟨by first | rfl | (simp [errW_none, errW_some] <;> rfl) | (simp [*, errW_none, errW_some] <;> rfl), by repeat (first | (with_reducible first | exact HB.out | apply below_alloc | apply pw_below_drewN | apply below_drew1 | refine below_set ?_ GE150.out) | exact HB.out)⟩

end Go.Proofs.YtalpoojepffldaaDoor.Ma
