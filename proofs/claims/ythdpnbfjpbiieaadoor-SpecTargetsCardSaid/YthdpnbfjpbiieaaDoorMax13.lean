-- Written by a program of this session (wip/tools/myprint.py), in the form of the kit's print. Not trusted: Lean checks it.
import Derived.Test.YthdpnbfjpbiieaaDoorMax0
import Derived.Test.YthdpnbfjpbiieaaDoorMax3
import Derived.Test.YthdpnbfjpbiieaaDoorMax11
import Derived.Test.YthdpnbfjpbiieaaDoorMax12
namespace Go.Proofs.YthdpnbfjpbiieaaDoor.Ma
open Go.RowKit Go.Proofs.YthdpnbfjpbiieaaDoorW.PrintWords Go.Proofs.YthdpnbfjpbiieaaDoorW.PrintLast Go.Proofs.YthdpnbfjpbiieaaDoorW.PrintMore
attribute [local go_sem] max2_int min2_int max_two min_two max_three min_three max_four min_four   -- for this text's walks alone
set_option linter.unusedVariables false
set_option linter.unusedSimpArgs false

/-! ### spec_Route: function 19 -/
mutual
def spec_Route.j0 : Nat → Bool → ByteArray → ByteArray → List (S41) → Int → Option (Int)
  | 0, _, _, _, _, _ => none
  | k + 1, x6, x152000, x152001, x152002, x152003 => if x6 = true then (some 1) else ((spec_span_has.f 0 60 x152003).bind fun t154 => (if t154 = true then ((spec_span_has.f 1 6 (x152002.length : Int)).bind fun t155 => (if t155 = true then (spec_Route.l0 k x152002 (x152002.length : Int) 0 x152000 x152001 x152002 x152003) else (some 3))) else (some 2)))
def spec_Route.l0 : Nat → List (S41) → Int → Int → ByteArray → ByteArray → List (S41) → Int → Option (Int)
  | 0, _, _, _, _, _, _, _ => none
  | k + 1, x29, x30, x31, x152000, x152001, x152002, x152003 => if x31 < x30 then (if 0 ≤ x31 then (if x31 < (x29.length : Int) then ((spec_target.f ((rd_T41 x29 x31).f0) ((rd_T41 x29 x31).f1) ((rd_T41 x29 x31).f2)).bind fun t158 => (if t158 = 0 then (spec_Route.l0 k x29 x30 (wrap64 (x31 + 1)) x152000 x152001 x152002 x152003) else (some t158))) else (none)) else (none)) else ((spec_all.f x152002).bind fun t159 => (some t159))
end
def spec_Route.f (k : Nat) (a0_0 : ByteArray) (a0_1 : ByteArray) (l0_2 : List (S41)) (a0_3 : Int) : Option (Int) := (label_Name.f a0_0).bind fun t152 => (if t152 = true then ((label_Name.f a0_1).bind fun t153 => (spec_Route.j0 k (!t153) a0_0 a0_1 l0_2 a0_3)) else (spec_Route.j0 k (!t152) a0_0 a0_1 l0_2 a0_3))
theorem spec_Route.mono_l : ∀ k, (∀ y0 y1 y2 y3 y4, LeO (spec_Route.j0 k y0 y1 y2 y3 y4) (spec_Route.j0 (k + 1) y0 y1 y2 y3 y4)) ∧ (∀ y0 y1 y2 y3 y4 y5 y6, LeO (spec_Route.l0 k y0 y1 y2 y3 y4 y5 y6) (spec_Route.l0 (k + 1) y0 y1 y2 y3 y4 y5 y6))
  | 0 => ⟨fun _ _ _ _ _ r h => by simp [spec_Route.j0] at h, fun _ _ _ _ _ _ _ r h => by simp [spec_Route.l0] at h⟩
  | k + 1 => by
    obtain ⟨ih0, ih1⟩ := spec_Route.mono_l k
    refine ⟨?_, ?_⟩
    · intro y0 y1 y2 y3 y4
      unfold spec_Route.j0
      repeat' first
      | (with_reducible exact ih0 _ _ _ _ _)
      | (with_reducible exact ih1 _ _ _ _ _ _ _)
      | (with_reducible exact LeO.refl _)
      | (with_reducible exact LeO.none _)
      | (with_reducible refine LeO.ite ?_ ?_)
      | (with_reducible refine LeO.bind ?_ (fun _ => ?_))
      | exact ih0 _ _ _ _ _
      | exact ih1 _ _ _ _ _ _ _
      | exact LeO.none _
      | refine LeO.ite ?_ ?_
      | refine LeO.bind ?_ (fun _ => ?_)
    · intro y0 y1 y2 y3 y4 y5 y6
      unfold spec_Route.l0
      repeat' first
      | (with_reducible exact ih0 _ _ _ _ _)
      | (with_reducible exact ih1 _ _ _ _ _ _ _)
      | (with_reducible exact LeO.refl _)
      | (with_reducible exact LeO.none _)
      | (with_reducible refine LeO.ite ?_ ?_)
      | (with_reducible refine LeO.bind ?_ (fun _ => ?_))
      | exact ih0 _ _ _ _ _
      | exact ih1 _ _ _ _ _ _ _
      | exact LeO.none _
      | refine LeO.ite ?_ ?_
      | refine LeO.bind ?_ (fun _ => ?_)
theorem spec_Route.mono : ∀ a0 a1 a2 a3 k, LeO (spec_Route.f k a0 a1 a2 a3) (spec_Route.f (k + 1) a0 a1 a2 a3) := by
  intro a0 a1 a2 a3 k
  obtain ⟨ih0, ih1⟩ := spec_Route.mono_l k
  unfold spec_Route.f
  repeat' first
      | (with_reducible exact ih0 _ _ _ _ _)
      | (with_reducible exact ih1 _ _ _ _ _ _ _)
      | (with_reducible exact LeO.refl _)
      | (with_reducible exact LeO.none _)
      | (with_reducible refine LeO.ite ?_ ?_)
      | (with_reducible refine LeO.bind ?_ (fun _ => ?_))
      | exact ih0 _ _ _ _ _
      | exact ih1 _ _ _ _ _ _ _
      | exact LeO.none _
      | refine LeO.ite ?_ ?_
      | refine LeO.bind ?_ (fun _ => ?_)
set_option maxHeartbeats 8000000 in
set_option maxRecDepth 100000 in
theorem spec_Route.calls (k : Nat) (a0_0 : ByteArray) (a0_1 : ByteArray) (A0_2 : Option Addr) (c0_2 : Nat) (l0_2 : List (S41)) (a0_3 : Int) (r : Int) (w : World) (hLd_ : Aside0 (LaidW w)) (hr0_2 : Kd.C k41 w A0_2 l0_2.length l0_2) (hc0_2 : l0_2.length ≤ c0_2) (h : spec_Route.f k a0_0 a0_1 l0_2 a0_3 = some r) :
    Calls Tryd.prog 19 #[.agg #[.string a0_0, .string a0_1, .slice A0_2 l0_2.length c0_2, .int .i64 a0_3]] w fun e w' => e = .returned (.int .i64 r) ∧ Below w.heap.size w w' := by
  have hu35 := Tryd.underlying35
  have hu57 := Tryd.underlying57
  have hu41 := Tryd.underlying41
  have HR0_2 := Aside0.mk hr0_2
  have HC0_2 := Aside0.mk hc0_2
  clear hr0_2 hc0_2
  have HB := Aside0.mk (Below.refl w.heap.size w)
  have H : ((label_Name.f a0_0).bind fun t152 => (if t152 = true then ((label_Name.f a0_1).bind fun t153 => (spec_Route.j0 k (!t153) a0_0 a0_1 l0_2 a0_3)) else (spec_Route.j0 k (!t152) a0_0 a0_1 l0_2 a0_3))) = some r := h
  clear h
  replace H := Option.bind_eq_some_iff.mp H
  obtain ⟨t152, A20, H⟩ := H
  replace H : (if t152 = true then ((label_Name.f a0_1).bind fun t153 => (spec_Route.j0 k (!t153) a0_0 a0_1 l0_2 a0_3)) else (spec_Route.j0 k (!t152) a0_0 a0_1 l0_2 a0_3)) = some r := H
  have A2 := Aside0.mk A20
  clear A20
  have HC3 := Aside0.mk H
  clear H
  go_enter Tryd.func19, Tryd.ntmps19
  go_upto_if 6 with (first | ((with_reducible refine gate_dst (N := 1) rfl ?_); refine box_event ?hg (N := 1) ?hd (cs := #[.string a0_0, .string a0_1, .slice A0_2 l0_2.length c0_2, .int .i64 a0_3]) (t := 35) ?hr ?_; (case hd => rfl); (case hg => rfl); (case hr => first | (go_simp; done) | (go_simp; rfl)); intro gb151 hg w4 hbox hb; have n0_ := Aside0.mk (below_step (by repeat (first | (with_reducible first | exact HB.out | apply below_alloc | apply pw_below_drewN | apply below_drew1) | exact HB.out)) hb); have n1_ := Aside0.mk (hbox); have n2_ := Aside0.mk ((by rw [hg]; exact (below_size (by repeat (first | (with_reducible first | exact HB.out | apply below_alloc | apply pw_below_drewN | apply below_drew1) | exact HB.out))) : w.heap.size ≤ gb151)); have n3_ := Aside0.mk ((by rw [hg]; exact (below_size (by repeat (first | (with_reducible first | exact HB.out | apply below_alloc | apply pw_below_drewN | apply below_drew1) | exact HB.out))) : w.heap.size ≤ gb151)); clear HB; have HB := n0_; have BK151 := n1_; have GW151 := n2_; have GE151 := n3_; clear n0_ n1_ n2_ n3_; clear hb hbox hg; have hcz5_0 : w4.cell? ⟨gb151, 0, none⟩ = some (.string a0_0) := bc BK151 0; have hcz5_1 : w4.cell? ⟨gb151, 1, none⟩ = some (.string a0_1) := bc BK151 1; have hcz5_2 : w4.cell? ⟨gb151, 2, none⟩ = some (.slice A0_2 l0_2.length c0_2) := bc BK151 2; have hcz5_3 : w4.cell? ⟨gb151, 3, none⟩ = some (.int .i64 a0_3) := bc BK151 3; have hfz5_0 := blk_frozen BK151.out 0; have hfz5_1 := blk_frozen BK151.out 1; have hfz5_2 := blk_frozen BK151.out 2; have hfz5_3 := blk_frozen BK151.out 3) | ((with_reducible refine gate_callee (f := 24) rfl ?_); refine goesL_ (some 9) rfl rfl Tryd.func24 (by kernel_rfl) rfl #[.string a0_0] rfl (by (try simp only [List.map_toArray, List.map_cons, List.map_nil]); first | done | rfl | (simp only [List.length_drop, List.length_take]; rfl)) ?_; (with_reducible refine (label_Name.calls a0_0 t152 _ A2.out).mono ?_); rintro e w6 ⟨rfl, hb⟩; refine ⟨_, rfl, ?_⟩; have n0_ := Aside0.mk (blk_below (g := gb151) (pk BK151) hb); have n1_ := Aside0.mk (below_step (by repeat (first | (with_reducible first | exact HB.out | apply below_alloc | apply pw_below_drewN | apply below_drew1 | refine below_set ?_ GE151.out) | exact HB.out)) hb); clear BK151; clear HB; have BK151 := n0_; have HB := n1_; clear n0_ n1_; (try clear hb); (try clear hb2); (try clear hk); (try clear hi)))
  (try simp only [Act.put, List.setIfInBounds_toArray, List.set_cons_zero, List.set_cons_succ])
  go_cut [6] (fun v6 wc => ∃ (kq : Nat) (x6_2 : Bool), v6 = .bool x6_2 ∧ Aside0 (spec_Route.j0 kq x6_2 a0_0 a0_1 l0_2 a0_3 = some r) ∧ Aside0 (kq ≤ k) ∧ Aside0 (wc.heap[gb151]? = some (.cells #[.string a0_0, .string a0_1, (.slice A0_2 l0_2.length c0_2), .int .i64 a0_3] 35 (0, 0))) ∧ Aside0 (Below w.heap.size w wc))
  case first =>
    have H := HC3.out
    clear HC3
    by_cases c7 : t152 = true
    · subst c7
      have H1 : ((label_Name.f a0_1).bind fun t153 => (spec_Route.j0 k (!t153) a0_0 a0_1 l0_2 a0_3)) = some r := by rw [if_pos rfl] at H; exact H
      clear H
      have H := H1
      clear H1
      replace H := Option.bind_eq_some_iff.mp H
      obtain ⟨t153, A80, H⟩ := H
      replace H : (spec_Route.j0 k (!t153) a0_0 a0_1 l0_2 a0_3) = some r := H
      have A8 := Aside0.mk A80
      clear A80
      have H' := Aside0.mk H
      clear H
      have hcz9_0 : w6.cell? ⟨gb151, 0, none⟩ = some (.string a0_0) := bc BK151 0
      have hcz9_1 : w6.cell? ⟨gb151, 1, none⟩ = some (.string a0_1) := bc BK151 1
      have hcz9_2 : w6.cell? ⟨gb151, 2, none⟩ = some (.slice A0_2 l0_2.length c0_2) := bc BK151 2
      have hcz9_3 : w6.cell? ⟨gb151, 3, none⟩ = some (.int .i64 a0_3) := bc BK151 3
      have hfz9_0 := blk_frozen BK151.out 0
      have hfz9_1 := blk_frozen BK151.out 1
      have hfz9_2 := blk_frozen BK151.out 2
      have hfz9_3 := blk_frozen BK151.out 3
      go_wp2_with (first | ((with_reducible refine gate_callee (f := 24) rfl ?_); refine goesL_ (some 13) rfl rfl Tryd.func24 (by kernel_rfl) rfl #[.string a0_1] rfl (by (try simp only [List.map_toArray, List.map_cons, List.map_nil]); first | done | rfl | (simp only [List.length_drop, List.length_take]; rfl)) ?_; (with_reducible refine (label_Name.calls a0_1 t153 _ A8.out).mono ?_); rintro e w10 ⟨rfl, hb⟩; refine ⟨_, rfl, ?_⟩; have n0_ := Aside0.mk (blk_below (g := gb151) (pk BK151) hb); have n1_ := Aside0.mk (below_step (by repeat (first | (with_reducible first | exact HB.out | apply below_alloc | apply pw_below_drewN | apply below_drew1 | refine below_set ?_ GE151.out) | exact HB.out)) hb); clear BK151; clear HB; have BK151 := n0_; have HB := n1_; clear n0_ n1_; (try clear hb); (try clear hb2); (try clear hk); (try clear hi)))
      go_meet
      case rel => exact ⟨_, (!t153), (by first | rfl | (simp; done) | (simp [*]; done)), H', ⟨by first | omega | exact Nat.le_refl _⟩, ⟨by (with_reducible repeat (first | refine blk_drewN ?_ _ | refine blk_drew ?_ | refine blk_alloc ?_ _)); exact BK151.out⟩, ⟨by repeat (first | (with_reducible first | exact HB.out | apply below_alloc | apply pw_below_drewN | apply below_drew1 | refine below_set ?_ GE151.out) | exact HB.out)⟩⟩
    · replace c7 := Bool.eq_false_iff.mpr c7
      subst c7
      have H1 : (spec_Route.j0 k (!false) a0_0 a0_1 l0_2 a0_3) = some r := by rw [if_neg (show ¬ (false = true) by decide)] at H; exact H
      clear H
      have H := H1
      clear H1
      have H' := Aside0.mk H
      clear H
      go_wp2
      go_meet
      case rel => exact ⟨_, (!false), (by first | rfl | (simp; done) | (simp [*]; done)), H', ⟨by first | omega | exact Nat.le_refl _⟩, ⟨by (with_reducible repeat (first | refine blk_drewN ?_ _ | refine blk_drew ?_ | refine blk_alloc ?_ _)); exact BK151.out⟩, ⟨by repeat (first | (with_reducible first | exact HB.out | apply below_alloc | apply pw_below_drewN | apply below_drew1 | refine below_set ?_ GE151.out) | exact HB.out)⟩⟩
  case rest =>
    clear HC3
    try clear c1
    try clear c2
    try clear p2
    try clear c7
    try clear hcz5_0
    try clear hcz5_1
    try clear hcz5_2
    try clear hcz5_3
    try clear hcz9_0
    try clear hcz9_1
    try clear hcz9_2
    try clear hcz9_3
    try clear hfz5_0
    try clear hfz5_1
    try clear hfz5_2
    try clear hfz5_3
    try clear hfz9_0
    try clear hfz9_1
    try clear hfz9_2
    try clear hfz9_3
    obtain ⟨kq, x6_2, rfl, HA, HJ2, BK151, HB⟩ := hcut
    cases kq with
    | zero => exact absurd HA.out (by simp [spec_Route.j0])
    | succ kj2 =>
      have H := HA.out
      clear HA
      simp only [spec_Route.j0] at H
      by_cases c11 : x6_2 = true
      · subst c11
        have H1 : (some 1) = some r := by rw [if_pos rfl] at H; exact H
        clear H
        have H := H1
        clear H1
        obtain rfl := Option.some.inj H
        go_wp2
        go_ret
        exact ⟨by first | rfl | (simp [errW_none, errW_some] <;> rfl) | (simp [*, errW_none, errW_some] <;> rfl), by repeat (first | (with_reducible first | exact HB.out | apply below_alloc | apply pw_below_drewN | apply below_drew1 | refine below_set ?_ GE151.out) | exact HB.out)⟩
      · replace c11 := Bool.eq_false_iff.mpr c11
        subst c11
        have H1 : ((spec_span_has.f 0 60 a0_3).bind fun t154 => (if t154 = true then ((spec_span_has.f 1 6 (l0_2.length : Int)).bind fun t155 => (if t155 = true then (spec_Route.l0 kj2 l0_2 (l0_2.length : Int) 0 a0_0 a0_1 l0_2 a0_3) else (some 3))) else (some 2))) = some r := by rw [if_neg (show ¬ (false = true) by decide)] at H; exact H
        clear H
        have H := H1
        clear H1
        replace H := Option.bind_eq_some_iff.mp H
        obtain ⟨t154, A120, H⟩ := H
        replace H : (if t154 = true then ((spec_span_has.f 1 6 (l0_2.length : Int)).bind fun t155 => (if t155 = true then (spec_Route.l0 kj2 l0_2 (l0_2.length : Int) 0 a0_0 a0_1 l0_2 a0_3) else (some 3))) else (some 2)) = some r := H
        have A12 := Aside0.mk A120
        clear A120
        by_cases c13 : t154 = true
        · subst c13
          have H1 : ((spec_span_has.f 1 6 (l0_2.length : Int)).bind fun t155 => (if t155 = true then (spec_Route.l0 kj2 l0_2 (l0_2.length : Int) 0 a0_0 a0_1 l0_2 a0_3) else (some 3))) = some r := by rw [if_pos rfl] at H; exact H
          clear H
          have H := H1
          clear H1
          replace H := Option.bind_eq_some_iff.mp H
          obtain ⟨t155, A140, H⟩ := H
          replace H : (if t155 = true then (spec_Route.l0 kj2 l0_2 (l0_2.length : Int) 0 a0_0 a0_1 l0_2 a0_3) else (some 3)) = some r := H
          have A14 := Aside0.mk A140
          clear A140
          by_cases c15 : t155 = true
          · subst c15
            have H1 : (spec_Route.l0 kj2 l0_2 (l0_2.length : Int) 0 a0_0 a0_1 l0_2 a0_3) = some r := by rw [if_pos rfl] at H; exact H
            clear H
            have H := H1
            clear H1
            have H' := Aside0.mk H
            clear H
            have hcz16_0 : wc.cell? ⟨gb151, 0, none⟩ = some (.string a0_0) := bc BK151 0
            have hcz16_1 : wc.cell? ⟨gb151, 1, none⟩ = some (.string a0_1) := bc BK151 1
            have hcz16_2 : wc.cell? ⟨gb151, 2, none⟩ = some (.slice A0_2 l0_2.length c0_2) := bc BK151 2
            have hcz16_3 : wc.cell? ⟨gb151, 3, none⟩ = some (.int .i64 a0_3) := bc BK151 3
            have hfz16_0 := blk_frozen BK151.out 0
            have hfz16_1 := blk_frozen BK151.out 1
            have hfz16_2 := blk_frozen BK151.out 2
            have hfz16_3 := blk_frozen BK151.out 3
            go_wp2_with (first | ((with_reducible refine gate_callee (f := 25) rfl ?_); refine goesL_ (some 19) rfl rfl Tryd.func25 (by kernel_rfl) rfl #[.agg #[.int .i64 0, .int .i64 60], .int .i64 a0_3] rfl (by (try simp only [List.map_toArray, List.map_cons, List.map_nil]); first | done | rfl | (simp only [List.length_drop, List.length_take]; rfl)) ?_; (with_reducible refine (spec_span_has.calls 0 60 a0_3 true _ A12.out).mono ?_); rintro e w17 ⟨rfl, hb⟩; refine ⟨_, rfl, ?_⟩; have n0_ := Aside0.mk (blk_below (g := gb151) (pk BK151) hb); have n1_ := Aside0.mk (below_step (by repeat (first | (with_reducible first | exact HB.out | apply below_alloc | apply pw_below_drewN | apply below_drew1 | refine below_set ?_ GE151.out) | exact HB.out)) hb); clear BK151; clear HB; have BK151 := n0_; have HB := n1_; clear n0_ n1_; (try clear hb); (try clear hb2); (try clear hk); (try clear hi); have hcz18_0 : w17.cell? ⟨gb151, 0, none⟩ = some (.string a0_0) := bc BK151 0; have hcz18_1 : w17.cell? ⟨gb151, 1, none⟩ = some (.string a0_1) := bc BK151 1; have hcz18_2 : w17.cell? ⟨gb151, 2, none⟩ = some (.slice A0_2 l0_2.length c0_2) := bc BK151 2; have hcz18_3 : w17.cell? ⟨gb151, 3, none⟩ = some (.int .i64 a0_3) := bc BK151 3; have hfz18_0 := blk_frozen BK151.out 0; have hfz18_1 := blk_frozen BK151.out 1; have hfz18_2 := blk_frozen BK151.out 2; have hfz18_3 := blk_frozen BK151.out 3) | ((with_reducible refine gate_callee (f := 25) rfl ?_); refine goesL_ (some 26) rfl rfl Tryd.func25 (by kernel_rfl) rfl #[.agg #[.int .i64 1, .int .i64 6], .int .i64 (l0_2.length : Int)] rfl (by (try simp only [List.map_toArray, List.map_cons, List.map_nil]); first | done | rfl | (simp only [List.length_drop, List.length_take]; rfl)) ?_; (with_reducible refine (spec_span_has.calls 1 6 (l0_2.length : Int) true _ A14.out).mono ?_); rintro e w19 ⟨rfl, hb⟩; refine ⟨_, rfl, ?_⟩; have n0_ := Aside0.mk (blk_below (g := gb151) (pk BK151) hb); have n1_ := Aside0.mk (below_step (by repeat (first | (with_reducible first | exact HB.out | apply below_alloc | apply pw_below_drewN | apply below_drew1 | refine below_set ?_ GE151.out) | exact HB.out)) hb); clear BK151; clear HB; have BK151 := n0_; have HB := n1_; clear n0_ n1_; (try clear hb); (try clear hb2); (try clear hk); (try clear hi); have hcz20_0 : w19.cell? ⟨gb151, 0, none⟩ = some (.string a0_0) := bc BK151 0; have hcz20_1 : w19.cell? ⟨gb151, 1, none⟩ = some (.string a0_1) := bc BK151 1; have hcz20_2 : w19.cell? ⟨gb151, 2, none⟩ = some (.slice A0_2 l0_2.length c0_2) := bc BK151 2; have hcz20_3 : w19.cell? ⟨gb151, 3, none⟩ = some (.int .i64 a0_3) := bc BK151 3; have hfz20_0 := blk_frozen BK151.out 0; have hfz20_1 := blk_frozen BK151.out 1; have hfz20_2 := blk_frozen BK151.out 2; have hfz20_3 := blk_frozen BK151.out 3))
            go_loopg [31] kj2 (fun kq v31 w' => ∃ (x31_2 : Int), v31 = .int .i64 x31_2 ∧ Aside0 (spec_Route.l0 kq l0_2 (l0_2.length : Int) x31_2 a0_0 a0_1 l0_2 a0_3 = some r) ∧ Aside0 (kq ≤ kj2) ∧ Aside0 (w'.heap[gb151]? = some (.cells #[.string a0_0, .string a0_1, (.slice A0_2 l0_2.length c0_2), .int .i64 a0_3] 35 (0, 0))) ∧ Aside0 (Below w.heap.size w w'))
            case atStart => exact ⟨(0), (by first | rfl | (simp; done) | (simp [*]; done)), H', ⟨Nat.le_refl _⟩, ⟨by (with_reducible repeat (first | refine blk_drewN ?_ _ | refine blk_drew ?_ | refine blk_alloc ?_ _)); exact BK151.out⟩, ⟨by repeat (first | (with_reducible first | exact HB.out | apply below_alloc | apply pw_below_drewN | apply below_drew1 | refine below_set ?_ GE151.out) | exact HB.out)⟩⟩
            case round =>
              clear H'
              try clear c1
              try clear c2
              try clear p2
              try clear c7
              try clear c11
              try clear c13
              try clear c15
              try clear c19
              try clear hcz16_0
              try clear hcz16_1
              try clear hcz16_2
              try clear hcz16_3
              try clear hcz18_0
              try clear hcz18_1
              try clear hcz18_2
              try clear hcz18_3
              try clear hcz20_0
              try clear hcz20_1
              try clear hcz20_2
              try clear hcz20_3
              try clear hcz5_0
              try clear hcz5_1
              try clear hcz5_2
              try clear hcz5_3
              try clear hcz9_0
              try clear hcz9_1
              try clear hcz9_2
              try clear hcz9_3
              try clear hfz16_0
              try clear hfz16_1
              try clear hfz16_2
              try clear hfz16_3
              try clear hfz18_0
              try clear hfz18_1
              try clear hfz18_2
              try clear hfz18_3
              try clear hfz20_0
              try clear hfz20_1
              try clear hfz20_2
              try clear hfz20_3
              try clear hfz5_0
              try clear hfz5_1
              try clear hfz5_2
              try clear hfz5_3
              try clear hfz9_0
              try clear hfz9_1
              try clear hfz9_2
              try clear hfz9_3
              try clear p2
              obtain ⟨x31_2, rfl, HA, HK2, BK151, HB⟩ := hrel
              cases gk with
              | zero => exact absurd HA.out (by simp [spec_Route.l0])
              | succ k2 =>
                have H := HA.out
                clear HA
                simp only [spec_Route.l0] at H
                by_cases c21 : x31_2 < (l0_2.length : Int)
                · rw [if_pos c21] at H
                  have c21b0 : decide (x31_2 < (l0_2.length : Int)) = true := decide_eq_true c21
                  clear c21
                  by_cases c22 : 0 ≤ x31_2
                  rotate_left
                  · rw [if_neg c22] at H
                    exact absurd H (by simp)
                  rw [if_pos c22] at H
                  have c22b0 : decide (0 ≤ x31_2) = true := decide_eq_true c22
                  clear c22
                  by_cases c23 : x31_2 < (l0_2.length : Int)
                  rotate_left
                  · rw [if_neg c23] at H
                    exact absurd H (by simp)
                  rw [if_pos c23] at H
                  have c23b0 : decide (x31_2 < (l0_2.length : Int)) = true := decide_eq_true c23
                  clear c23
                  replace H := Option.bind_eq_some_iff.mp H
                  obtain ⟨t158, A240, H⟩ := H
                  replace H : (if t158 = 0 then (spec_Route.l0 k2 l0_2 (l0_2.length : Int) (wrap64 (x31_2 + 1)) a0_0 a0_1 l0_2 a0_3) else (some t158)) = some r := H
                  have A24 := Aside0.mk A240
                  clear A240
                  by_cases c25 : t158 = 0
                  · rw [if_pos c25] at H
                    have c25b0 : (t158 == 0) = true := beq_iff_eq.mpr c25
                    have c25b1 : (t158 != 0) = false := bne_eq_false_iff_eq.mpr c25
                    clear c25
                    have H' := Aside0.mk H
                    clear H
                    have p156 : 0 ≤ (x31_2 : Int) := of_decide_eq_true (by first | (with_reducible assumption) | assumption)
                    have q156 : x31_2 < (l0_2.length : Int) := of_decide_eq_true (by first | (with_reducible assumption) | assumption)
                    obtain ⟨ad156, e156, hx156_0, hx156_1, hx156_2⟩ := at_T41 HR0_2.out x31_2 p156 q156
                    cases e156
                    replace hx156_0 := (HB.out.cell (World.block_lt_of_cell? w _ hx156_0)).trans hx156_0
                    replace hx156_1 := (HB.out.cell (World.block_lt_of_cell? w _ hx156_1)).trans hx156_1
                    replace hx156_2 := (HB.out.cell (World.block_lt_of_cell? w _ hx156_2)).trans hx156_2
                    replace p156 := eq_true p156
                    replace q156 := eq_true q156
                    go_wp2_with (first | ((with_reducible refine gate_dst (N := 4) rfl ?_); refine box_event ?hg (N := 4) ?hd (cs := #[.string (⟨#[]⟩ : ByteArray), .string (⟨#[]⟩ : ByteArray), .int .i64 0]) (t := 41) ?hr ?_; (case hd => rfl); (case hg => rfl); (case hr => first | (go_simp; done) | (go_simp; rfl)); intro gb157 hg w26 hbox hb; have n0_ := Aside0.mk (blk_below (g := gb151) (pk BK151) hb); have n1_ := Aside0.mk (below_step (by repeat (first | (with_reducible first | exact HB.out | apply below_alloc | apply pw_below_drewN | apply below_drew1 | refine below_set ?_ GE151.out) | exact HB.out)) hb); have n2_ := Aside0.mk (hbox); have n3_ := Aside0.mk ((by rw [hg]; exact (below_size (by repeat (first | (with_reducible first | exact HB.out | apply below_alloc | apply pw_below_drewN | apply below_drew1 | refine below_set ?_ GE151.out) | exact HB.out))) : w.heap.size ≤ gb157)); have n4_ := Aside0.mk ((by rw [hg]; exact (below_size (by repeat (first | (with_reducible first | exact HB.out | apply below_alloc | apply pw_below_drewN | apply below_drew1 | refine below_set ?_ GE151.out) | exact HB.out))) : w.heap.size ≤ gb157)); have n5_ := Aside0.mk ((ne_lt hg (pk BK151) : gb151 ≠ gb157)); have n6_ := Aside0.mk ((ne_gt hg (pk BK151) : gb157 ≠ gb151)); clear BK151; clear HB; have BK151 := n0_; have HB := n1_; have BK157 := n2_; have GW157 := n3_; have GE157 := n4_; have NB151_157 := n5_; have NB157_151 := n6_; clear n0_ n1_ n2_ n3_ n4_ n5_ n6_; clear hb hbox hg; have hnb27 := NB157_151.out; have hnc27 := NB151_157.out; have hcz28_0 : w26.cell? ⟨gb157, 0, none⟩ = some (.string (⟨#[]⟩ : ByteArray)) := bc BK157 0; have hcz28_1 : w26.cell? ⟨gb157, 1, none⟩ = some (.string (⟨#[]⟩ : ByteArray)) := bc BK157 1; have hcz28_2 : w26.cell? ⟨gb157, 2, none⟩ = some (.int .i64 0) := bc BK157 2; have hfz28_0 := blk_frozen BK157.out 0; have hfz28_1 := blk_frozen BK157.out 1; have hfz28_2 := blk_frozen BK157.out 2) | ((with_reducible refine gate_callee (f := 28) rfl ?_); refine goesL_ (some 36) rfl rfl Tryd.func28 (by kernel_rfl) rfl #[.agg #[.string ((rd_T41 l0_2 x31_2).f0), .string ((rd_T41 l0_2 x31_2).f1), .int .i64 ((rd_T41 l0_2 x31_2).f2)]] rfl (by (try simp only [List.map_toArray, List.map_cons, List.map_nil]); first | done | rfl | (simp only [List.length_drop, List.length_take]; rfl)) ?_; (with_reducible refine (spec_target.calls ((rd_T41 l0_2 x31_2).f0) ((rd_T41 l0_2 x31_2).f1) ((rd_T41 l0_2 x31_2).f2) t158 _ ?side1 A24.out).mono ?_); (case side1 => first | exact hLd_.out | exact hLd_ | exact ⟨LaidW.below hLd_.out (by repeat (first | (with_reducible first | exact HB.out | apply below_alloc | apply pw_below_drewN | apply below_drew1 | refine below_set ?_ GE151.out | refine below_set ?_ GE157.out) | exact HB.out))⟩ | exact ⟨LaidW.below hLd_.out (by repeat (first | exact Below.refl _ _ | apply below_alloc | apply pw_below_drewN | apply below_drew1))⟩); rintro e w29 ⟨rfl, hb⟩; refine ⟨_, rfl, ?_⟩; have n0_ := Aside0.mk (blk_below (g := gb151) (o := .cells #[.string a0_0, .string a0_1, .slice (some ad156) l0_2.length c0_2, .int .i64 a0_3] 35 (0, 0)) (by (repeat ((with_reducible repeat (first | refine blk_drewN ?_ _ | refine blk_drew ?_ | refine blk_alloc ?_ _)); with_reducible refine blk_far ?_ NB151_157.out _)); (with_reducible repeat (first | refine blk_drewN ?_ _ | refine blk_drew ?_ | refine blk_alloc ?_ _)); exact BK151.out) hb); have n1_ := Aside0.mk (blk_below (g := gb157) (o := .cells #[.string ((rd_T41 l0_2 x31_2).f0), .string ((rd_T41 l0_2 x31_2).f1), .int .i64 ((rd_T41 l0_2 x31_2).f2)] 41 (0, 0)) (by (with_reducible repeat (first | refine blk_drewN ?_ _ | refine blk_drew ?_ | refine blk_alloc ?_ _)); refine blk_put (cs := #[.string ((rd_T41 l0_2 x31_2).f0), .string ((rd_T41 l0_2 x31_2).f1), .int .i64 0]) ?_ 2 _ rfl; (with_reducible repeat (first | refine blk_drewN ?_ _ | refine blk_drew ?_ | refine blk_alloc ?_ _)); refine blk_put (cs := #[.string ((rd_T41 l0_2 x31_2).f0), .string (⟨#[]⟩ : ByteArray), .int .i64 0]) ?_ 1 _ rfl; (with_reducible repeat (first | refine blk_drewN ?_ _ | refine blk_drew ?_ | refine blk_alloc ?_ _)); refine blk_put (cs := #[.string (⟨#[]⟩ : ByteArray), .string (⟨#[]⟩ : ByteArray), .int .i64 0]) ?_ 0 _ rfl; (with_reducible repeat (first | refine blk_drewN ?_ _ | refine blk_drew ?_ | refine blk_alloc ?_ _)); exact BK157.out) hb); have n2_ := Aside0.mk (below_step (by repeat (first | (with_reducible first | exact HB.out | apply below_alloc | apply pw_below_drewN | apply below_drew1 | refine below_set ?_ GE151.out | refine below_set ?_ GE157.out) | exact HB.out)) hb); clear BK151; clear BK157; clear HB; have BK151 := n0_; have BK157 := n1_; have HB := n2_; clear n0_ n1_ n2_; (try clear hb); (try clear hb2); (try clear hk); (try clear hi)))
                    go_roundg k2
                    case measure => have := HJ2.out; have := HK2.out; omega
                    case rel => exact ⟨(wrap64 (x31_2 + 1)), (by first | rfl | (simp; done) | (simp [*]; done)), H', ⟨by have := HJ2.out; have := HK2.out; omega⟩, ⟨by (with_reducible repeat (first | refine blk_drewN ?_ _ | refine blk_drew ?_ | refine blk_alloc ?_ _)); exact BK151.out⟩, ⟨by repeat (first | (with_reducible first | exact HB.out | apply below_alloc | apply pw_below_drewN | apply below_drew1 | refine below_set ?_ GE151.out | refine below_set ?_ GE157.out) | exact HB.out)⟩⟩
                  · rw [if_neg c25] at H
                    have c25b0 : (t158 == 0) = false := beq_eq_false_iff_ne.mpr c25
                    have c25b1 : (t158 != 0) = true := bne_iff_ne.mpr c25
                    obtain rfl := Option.some.inj H
                    have p156 : 0 ≤ (x31_2 : Int) := of_decide_eq_true (by first | (with_reducible assumption) | assumption)
                    have q156 : x31_2 < (l0_2.length : Int) := of_decide_eq_true (by first | (with_reducible assumption) | assumption)
                    obtain ⟨ad156, e156, hx156_0, hx156_1, hx156_2⟩ := at_T41 HR0_2.out x31_2 p156 q156
                    cases e156
                    replace hx156_0 := (HB.out.cell (World.block_lt_of_cell? w _ hx156_0)).trans hx156_0
                    replace hx156_1 := (HB.out.cell (World.block_lt_of_cell? w _ hx156_1)).trans hx156_1
                    replace hx156_2 := (HB.out.cell (World.block_lt_of_cell? w _ hx156_2)).trans hx156_2
                    replace p156 := eq_true p156
                    replace q156 := eq_true q156
                    go_wp2_with (first | ((with_reducible refine gate_dst (N := 4) rfl ?_); refine box_event ?hg (N := 4) ?hd (cs := #[.string (⟨#[]⟩ : ByteArray), .string (⟨#[]⟩ : ByteArray), .int .i64 0]) (t := 41) ?hr ?_; (case hd => rfl); (case hg => rfl); (case hr => first | (go_simp; done) | (go_simp; rfl)); intro gb157 hg w30 hbox hb; have n0_ := Aside0.mk (blk_below (g := gb151) (pk BK151) hb); have n1_ := Aside0.mk (below_step (by repeat (first | (with_reducible first | exact HB.out | apply below_alloc | apply pw_below_drewN | apply below_drew1 | refine below_set ?_ GE151.out) | exact HB.out)) hb); have n2_ := Aside0.mk (hbox); have n3_ := Aside0.mk ((by rw [hg]; exact (below_size (by repeat (first | (with_reducible first | exact HB.out | apply below_alloc | apply pw_below_drewN | apply below_drew1 | refine below_set ?_ GE151.out) | exact HB.out))) : w.heap.size ≤ gb157)); have n4_ := Aside0.mk ((by rw [hg]; exact (below_size (by repeat (first | (with_reducible first | exact HB.out | apply below_alloc | apply pw_below_drewN | apply below_drew1 | refine below_set ?_ GE151.out) | exact HB.out))) : w.heap.size ≤ gb157)); have n5_ := Aside0.mk ((ne_lt hg (pk BK151) : gb151 ≠ gb157)); have n6_ := Aside0.mk ((ne_gt hg (pk BK151) : gb157 ≠ gb151)); clear BK151; clear HB; have BK151 := n0_; have HB := n1_; have BK157 := n2_; have GW157 := n3_; have GE157 := n4_; have NB151_157 := n5_; have NB157_151 := n6_; clear n0_ n1_ n2_ n3_ n4_ n5_ n6_; clear hb hbox hg; have hnb31 := NB157_151.out; have hnc31 := NB151_157.out; have hcz32_0 : w30.cell? ⟨gb157, 0, none⟩ = some (.string (⟨#[]⟩ : ByteArray)) := bc BK157 0; have hcz32_1 : w30.cell? ⟨gb157, 1, none⟩ = some (.string (⟨#[]⟩ : ByteArray)) := bc BK157 1; have hcz32_2 : w30.cell? ⟨gb157, 2, none⟩ = some (.int .i64 0) := bc BK157 2; have hfz32_0 := blk_frozen BK157.out 0; have hfz32_1 := blk_frozen BK157.out 1; have hfz32_2 := blk_frozen BK157.out 2) | ((with_reducible refine gate_callee (f := 28) rfl ?_); refine goesL_ (some 36) rfl rfl Tryd.func28 (by kernel_rfl) rfl #[.agg #[.string ((rd_T41 l0_2 x31_2).f0), .string ((rd_T41 l0_2 x31_2).f1), .int .i64 ((rd_T41 l0_2 x31_2).f2)]] rfl (by (try simp only [List.map_toArray, List.map_cons, List.map_nil]); first | done | rfl | (simp only [List.length_drop, List.length_take]; rfl)) ?_; (with_reducible refine (spec_target.calls ((rd_T41 l0_2 x31_2).f0) ((rd_T41 l0_2 x31_2).f1) ((rd_T41 l0_2 x31_2).f2) t158 _ ?side1 A24.out).mono ?_); (case side1 => first | exact hLd_.out | exact hLd_ | exact ⟨LaidW.below hLd_.out (by repeat (first | (with_reducible first | exact HB.out | apply below_alloc | apply pw_below_drewN | apply below_drew1 | refine below_set ?_ GE151.out | refine below_set ?_ GE157.out) | exact HB.out))⟩ | exact ⟨LaidW.below hLd_.out (by repeat (first | exact Below.refl _ _ | apply below_alloc | apply pw_below_drewN | apply below_drew1))⟩); rintro e w33 ⟨rfl, hb⟩; refine ⟨_, rfl, ?_⟩; have n0_ := Aside0.mk (blk_below (g := gb151) (o := .cells #[.string a0_0, .string a0_1, .slice (some ad156) l0_2.length c0_2, .int .i64 a0_3] 35 (0, 0)) (by (repeat ((with_reducible repeat (first | refine blk_drewN ?_ _ | refine blk_drew ?_ | refine blk_alloc ?_ _)); with_reducible refine blk_far ?_ NB151_157.out _)); (with_reducible repeat (first | refine blk_drewN ?_ _ | refine blk_drew ?_ | refine blk_alloc ?_ _)); exact BK151.out) hb); have n1_ := Aside0.mk (blk_below (g := gb157) (o := .cells #[.string ((rd_T41 l0_2 x31_2).f0), .string ((rd_T41 l0_2 x31_2).f1), .int .i64 ((rd_T41 l0_2 x31_2).f2)] 41 (0, 0)) (by (with_reducible repeat (first | refine blk_drewN ?_ _ | refine blk_drew ?_ | refine blk_alloc ?_ _)); refine blk_put (cs := #[.string ((rd_T41 l0_2 x31_2).f0), .string ((rd_T41 l0_2 x31_2).f1), .int .i64 0]) ?_ 2 _ rfl; (with_reducible repeat (first | refine blk_drewN ?_ _ | refine blk_drew ?_ | refine blk_alloc ?_ _)); refine blk_put (cs := #[.string ((rd_T41 l0_2 x31_2).f0), .string (⟨#[]⟩ : ByteArray), .int .i64 0]) ?_ 1 _ rfl; (with_reducible repeat (first | refine blk_drewN ?_ _ | refine blk_drew ?_ | refine blk_alloc ?_ _)); refine blk_put (cs := #[.string (⟨#[]⟩ : ByteArray), .string (⟨#[]⟩ : ByteArray), .int .i64 0]) ?_ 0 _ rfl; (with_reducible repeat (first | refine blk_drewN ?_ _ | refine blk_drew ?_ | refine blk_alloc ?_ _)); exact BK157.out) hb); have n2_ := Aside0.mk (below_step (by repeat (first | (with_reducible first | exact HB.out | apply below_alloc | apply pw_below_drewN | apply below_drew1 | refine below_set ?_ GE151.out | refine below_set ?_ GE157.out) | exact HB.out)) hb); clear BK151; clear BK157; clear HB; have BK151 := n0_; have BK157 := n1_; have HB := n2_; clear n0_ n1_ n2_; (try clear hb); (try clear hb2); (try clear hk); (try clear hi)))
                    go_ret
                    exact ⟨by first | rfl | (simp [errW_none, errW_some] <;> rfl) | (simp [*, errW_none, errW_some] <;> rfl), by repeat (first | (with_reducible first | exact HB.out | apply below_alloc | apply pw_below_drewN | apply below_drew1 | refine below_set ?_ GE151.out | refine below_set ?_ GE157.out) | exact HB.out)⟩
                · rw [if_neg c21] at H
                  have c21b0 : decide (x31_2 < (l0_2.length : Int)) = false := decide_eq_false c21
                  clear c21
                  replace H := Option.bind_eq_some_iff.mp H
                  obtain ⟨t159, A340, H⟩ := H
                  replace H : (some t159) = some r := H
                  have A34 := Aside0.mk A340
                  clear A340
                  obtain rfl := Option.some.inj H
                  have hcz35_0 : wr.cell? ⟨gb151, 0, none⟩ = some (.string a0_0) := bc BK151 0
                  have hcz35_1 : wr.cell? ⟨gb151, 1, none⟩ = some (.string a0_1) := bc BK151 1
                  have hcz35_2 : wr.cell? ⟨gb151, 2, none⟩ = some (.slice A0_2 l0_2.length c0_2) := bc BK151 2
                  have hcz35_3 : wr.cell? ⟨gb151, 3, none⟩ = some (.int .i64 a0_3) := bc BK151 3
                  have hfz35_0 := blk_frozen BK151.out 0
                  have hfz35_1 := blk_frozen BK151.out 1
                  have hfz35_2 := blk_frozen BK151.out 2
                  have hfz35_3 := blk_frozen BK151.out 3
                  go_wp2_with (first | ((with_reducible refine gate_callee (f := 29) rfl ?_); refine goesL_ (some 43) rfl rfl Tryd.func29 (by kernel_rfl) rfl #[.slice A0_2 l0_2.length c0_2] rfl (by (try simp only [List.map_toArray, List.map_cons, List.map_nil]); first | done | rfl | (simp only [List.length_drop, List.length_take]; rfl)) ?_; (with_reducible refine (spec_all.calls _ _ l0_2 t159 _ ?side1 ?side2 A34.out).mono ?_); (case side1 => repeat (first | exact (Kd.C_below HR0_2.out HB.out) | (with_reducible refine Kd.C_alloc ?_ _) | (with_reducible refine Kd.C_drewN ?_ _) | (with_reducible refine Kd.C_drew ?_))); (case side2 => exact HC0_2.out); rintro e w36 ⟨rfl, hb⟩; refine ⟨_, rfl, ?_⟩; have n0_ := Aside0.mk (blk_below (g := gb151) (pk BK151) hb); have n1_ := Aside0.mk (below_step (by repeat (first | (with_reducible first | exact HB.out | apply below_alloc | apply pw_below_drewN | apply below_drew1 | refine below_set ?_ GE151.out) | exact HB.out)) hb); clear BK151; clear HB; have BK151 := n0_; have HB := n1_; clear n0_ n1_; (try clear hb); (try clear hb2); (try clear hk); (try clear hi)))
                  go_ret
                  exact ⟨by first | rfl | (simp [errW_none, errW_some] <;> rfl) | (simp [*, errW_none, errW_some] <;> rfl), by repeat (first | (with_reducible first | exact HB.out | apply below_alloc | apply pw_below_drewN | apply below_drew1 | refine below_set ?_ GE151.out) | exact HB.out)⟩
          · replace c15 := Bool.eq_false_iff.mpr c15
            subst c15
            have H1 : (some 3) = some r := by rw [if_neg (show ¬ (false = true) by decide)] at H; exact H
            clear H
            have H := H1
            clear H1
            obtain rfl := Option.some.inj H
            have hcz37_0 : wc.cell? ⟨gb151, 0, none⟩ = some (.string a0_0) := bc BK151 0
            have hcz37_1 : wc.cell? ⟨gb151, 1, none⟩ = some (.string a0_1) := bc BK151 1
            have hcz37_2 : wc.cell? ⟨gb151, 2, none⟩ = some (.slice A0_2 l0_2.length c0_2) := bc BK151 2
            have hcz37_3 : wc.cell? ⟨gb151, 3, none⟩ = some (.int .i64 a0_3) := bc BK151 3
            have hfz37_0 := blk_frozen BK151.out 0
            have hfz37_1 := blk_frozen BK151.out 1
            have hfz37_2 := blk_frozen BK151.out 2
            have hfz37_3 := blk_frozen BK151.out 3
            go_wp2_with (first | ((with_reducible refine gate_callee (f := 25) rfl ?_); refine goesL_ (some 19) rfl rfl Tryd.func25 (by kernel_rfl) rfl #[.agg #[.int .i64 0, .int .i64 60], .int .i64 a0_3] rfl (by (try simp only [List.map_toArray, List.map_cons, List.map_nil]); first | done | rfl | (simp only [List.length_drop, List.length_take]; rfl)) ?_; (with_reducible refine (spec_span_has.calls 0 60 a0_3 true _ A12.out).mono ?_); rintro e w38 ⟨rfl, hb⟩; refine ⟨_, rfl, ?_⟩; have n0_ := Aside0.mk (blk_below (g := gb151) (pk BK151) hb); have n1_ := Aside0.mk (below_step (by repeat (first | (with_reducible first | exact HB.out | apply below_alloc | apply pw_below_drewN | apply below_drew1 | refine below_set ?_ GE151.out) | exact HB.out)) hb); clear BK151; clear HB; have BK151 := n0_; have HB := n1_; clear n0_ n1_; (try clear hb); (try clear hb2); (try clear hk); (try clear hi); have hcz39_0 : w38.cell? ⟨gb151, 0, none⟩ = some (.string a0_0) := bc BK151 0; have hcz39_1 : w38.cell? ⟨gb151, 1, none⟩ = some (.string a0_1) := bc BK151 1; have hcz39_2 : w38.cell? ⟨gb151, 2, none⟩ = some (.slice A0_2 l0_2.length c0_2) := bc BK151 2; have hcz39_3 : w38.cell? ⟨gb151, 3, none⟩ = some (.int .i64 a0_3) := bc BK151 3; have hfz39_0 := blk_frozen BK151.out 0; have hfz39_1 := blk_frozen BK151.out 1; have hfz39_2 := blk_frozen BK151.out 2; have hfz39_3 := blk_frozen BK151.out 3) | ((with_reducible refine gate_callee (f := 25) rfl ?_); refine goesL_ (some 26) rfl rfl Tryd.func25 (by kernel_rfl) rfl #[.agg #[.int .i64 1, .int .i64 6], .int .i64 (l0_2.length : Int)] rfl (by (try simp only [List.map_toArray, List.map_cons, List.map_nil]); first | done | rfl | (simp only [List.length_drop, List.length_take]; rfl)) ?_; (with_reducible refine (spec_span_has.calls 1 6 (l0_2.length : Int) false _ A14.out).mono ?_); rintro e w40 ⟨rfl, hb⟩; refine ⟨_, rfl, ?_⟩; have n0_ := Aside0.mk (blk_below (g := gb151) (pk BK151) hb); have n1_ := Aside0.mk (below_step (by repeat (first | (with_reducible first | exact HB.out | apply below_alloc | apply pw_below_drewN | apply below_drew1 | refine below_set ?_ GE151.out) | exact HB.out)) hb); clear BK151; clear HB; have BK151 := n0_; have HB := n1_; clear n0_ n1_; (try clear hb); (try clear hb2); (try clear hk); (try clear hi)))
            go_ret
            exact ⟨by first | rfl | (simp [errW_none, errW_some] <;> rfl) | (simp [*, errW_none, errW_some] <;> rfl), by repeat (first | (with_reducible first | exact HB.out | apply below_alloc | apply pw_below_drewN | apply below_drew1 | refine below_set ?_ GE151.out) | exact HB.out)⟩
        · replace c13 := Bool.eq_false_iff.mpr c13
          subst c13
          have H1 : (some 2) = some r := by rw [if_neg (show ¬ (false = true) by decide)] at H; exact H
          clear H
          have H := H1
          clear H1
          obtain rfl := Option.some.inj H
          have hcz41_0 : wc.cell? ⟨gb151, 0, none⟩ = some (.string a0_0) := bc BK151 0
          have hcz41_1 : wc.cell? ⟨gb151, 1, none⟩ = some (.string a0_1) := bc BK151 1
          have hcz41_2 : wc.cell? ⟨gb151, 2, none⟩ = some (.slice A0_2 l0_2.length c0_2) := bc BK151 2
          have hcz41_3 : wc.cell? ⟨gb151, 3, none⟩ = some (.int .i64 a0_3) := bc BK151 3
          have hfz41_0 := blk_frozen BK151.out 0
          have hfz41_1 := blk_frozen BK151.out 1
          have hfz41_2 := blk_frozen BK151.out 2
          have hfz41_3 := blk_frozen BK151.out 3
          go_wp2_with (first | ((with_reducible refine gate_callee (f := 25) rfl ?_); refine goesL_ (some 19) rfl rfl Tryd.func25 (by kernel_rfl) rfl #[.agg #[.int .i64 0, .int .i64 60], .int .i64 a0_3] rfl (by (try simp only [List.map_toArray, List.map_cons, List.map_nil]); first | done | rfl | (simp only [List.length_drop, List.length_take]; rfl)) ?_; (with_reducible refine (spec_span_has.calls 0 60 a0_3 false _ A12.out).mono ?_); rintro e w42 ⟨rfl, hb⟩; refine ⟨_, rfl, ?_⟩; have n0_ := Aside0.mk (blk_below (g := gb151) (pk BK151) hb); have n1_ := Aside0.mk (below_step (by repeat (first | (with_reducible first | exact HB.out | apply below_alloc | apply pw_below_drewN | apply below_drew1 | refine below_set ?_ GE151.out) | exact HB.out)) hb); clear BK151; clear HB; have BK151 := n0_; have HB := n1_; clear n0_ n1_; (try clear hb); (try clear hb2); (try clear hk); (try clear hi)))
          go_ret
          exact ⟨by first | rfl | (simp [errW_none, errW_some] <;> rfl) | (simp [*, errW_none, errW_some] <;> rfl), by repeat (first | (with_reducible first | exact HB.out | apply below_alloc | apply pw_below_drewN | apply below_drew1 | refine below_set ?_ GE151.out) | exact HB.out)⟩

end Go.Proofs.YthdpnbfjpbiieaaDoor.Ma
