-- Written by a program of this session (wip/tools/myprint.py), in the form of the kit's print. Not trusted: Lean checks it.
import Derived.Test.YtalpoojepffldaaDoorMax0
import Derived.Test.YtalpoojepffldaaDoorMax12
import Derived.Test.YtalpoojepffldaaDoorMax15
namespace Go.Proofs.YtalpoojepffldaaDoor.Ma
open Go.RowKit Go.Proofs.YtalpoojepffldaaDoorW.PrintWords Go.Proofs.YtalpoojepffldaaDoorW.PrintLast Go.Proofs.YtalpoojepffldaaDoorW.PrintMore
attribute [local go_sem] max2_int min2_int max_two min_two max_three min_three max_four min_four   -- for this text's walks alone
set_option linter.unusedVariables false
set_option linter.unusedSimpArgs false

/-! ### spec_Config: function 39 -/
def spec_Config.j0 : Nat → Bool → Option (Int)
  | 0, _ => none
  | k + 1, x8 => if x8 = true then (some 2) else (some 0)
def spec_Config.f (k : Nat) (a0_0 : ByteArray) (a0_1 : Int) (a0_2 : Int) (a0_3 : Int) (a0_4 : Int) (a0_5 : Int) : Option (Int) := (label_Name.f a0_0).bind fun t158 => (if t158 = true then ((spec_span_has.f 0 255 a0_1).bind fun t159 => (if t159 = true then ((spec_span_has.f 1 8 a0_2).bind fun t160 => (if t160 = true then ((spec_span_has.f 1 10 a0_4).bind fun t161 => (if t161 = true then ((spec_span_has.f 0 a0_4 a0_3).bind fun t162 => (if t162 = true then ((spec_span_has.f 0 30 a0_5).bind fun t163 => (spec_Config.j0 k (!t163))) else (spec_Config.j0 k (!t162)))) else (spec_Config.j0 k (!t161)))) else (spec_Config.j0 k (!t160)))) else (spec_Config.j0 k (!t159)))) else (some 1))
theorem spec_Config.mono_l : ∀ k, (∀ y0, LeO (spec_Config.j0 k y0) (spec_Config.j0 (k + 1) y0))
  | 0 => fun _ r h => by simp [spec_Config.j0] at h
  | k + 1 => by
    have ih0 := spec_Config.mono_l k
    · intro y0
      unfold spec_Config.j0
      repeat' first
      | (with_reducible exact ih0 _)
      | (with_reducible exact LeO.refl _)
      | (with_reducible exact LeO.none _)
      | (with_reducible refine LeO.ite ?_ ?_)
      | (with_reducible refine LeO.bind ?_ (fun _ => ?_))
      | exact ih0 _
      | exact LeO.none _
      | refine LeO.ite ?_ ?_
      | refine LeO.bind ?_ (fun _ => ?_)
theorem spec_Config.mono : ∀ a0 a1 a2 a3 a4 a5 k, LeO (spec_Config.f k a0 a1 a2 a3 a4 a5) (spec_Config.f (k + 1) a0 a1 a2 a3 a4 a5) := by
  intro a0 a1 a2 a3 a4 a5 k
  have ih0 := spec_Config.mono_l k
  unfold spec_Config.f
  repeat' first
      | (with_reducible exact ih0 _)
      | (with_reducible exact LeO.refl _)
      | (with_reducible exact LeO.none _)
      | (with_reducible refine LeO.ite ?_ ?_)
      | (with_reducible refine LeO.bind ?_ (fun _ => ?_))
      | exact ih0 _
      | exact LeO.none _
      | refine LeO.ite ?_ ?_
      | refine LeO.bind ?_ (fun _ => ?_)
set_option maxHeartbeats 8000000 in
set_option maxRecDepth 100000 in
theorem spec_Config.calls (k : Nat) (a0_0 : ByteArray) (a0_1 : Int) (a0_2 : Int) (a0_3 : Int) (a0_4 : Int) (a0_5 : Int) (r : Int) (w : World) (h : spec_Config.f k a0_0 a0_1 a0_2 a0_3 a0_4 a0_5 = some r) :
    Calls Tryd.prog 39 #[.agg #[.string a0_0, .int .i64 a0_1, .int .i64 a0_2, .int .i64 a0_3, .int .i64 a0_4, .int .i64 a0_5]] w fun e w' => e = .returned (.int .i64 r) ∧ Below w.heap.size w w' := by
  have hu23 := Tryd.underlying23
  have hu107 := Tryd.underlying107
  have HB := Aside0.mk (Below.refl w.heap.size w)
  have H : ((label_Name.f a0_0).bind fun t158 => (if t158 = true then ((spec_span_has.f 0 255 a0_1).bind fun t159 => (if t159 = true then ((spec_span_has.f 1 8 a0_2).bind fun t160 => (if t160 = true then ((spec_span_has.f 1 10 a0_4).bind fun t161 => (if t161 = true then ((spec_span_has.f 0 a0_4 a0_3).bind fun t162 => (if t162 = true then ((spec_span_has.f 0 30 a0_5).bind fun t163 => (spec_Config.j0 k (!t163))) else (spec_Config.j0 k (!t162)))) else (spec_Config.j0 k (!t161)))) else (spec_Config.j0 k (!t160)))) else (spec_Config.j0 k (!t159)))) else (some 1))) = some r := h
  clear h
  replace H := Option.bind_eq_some_iff.mp H
  obtain ⟨t158, A20, H⟩ := H
  replace H : (if t158 = true then ((spec_span_has.f 0 255 a0_1).bind fun t159 => (if t159 = true then ((spec_span_has.f 1 8 a0_2).bind fun t160 => (if t160 = true then ((spec_span_has.f 1 10 a0_4).bind fun t161 => (if t161 = true then ((spec_span_has.f 0 a0_4 a0_3).bind fun t162 => (if t162 = true then ((spec_span_has.f 0 30 a0_5).bind fun t163 => (spec_Config.j0 k (!t163))) else (spec_Config.j0 k (!t162)))) else (spec_Config.j0 k (!t161)))) else (spec_Config.j0 k (!t160)))) else (spec_Config.j0 k (!t159)))) else (some 1)) = some r := H
  have A2 := Aside0.mk A20
  clear A20
  by_cases c3 : t158 = true
  · subst c3
    have H1 : ((spec_span_has.f 0 255 a0_1).bind fun t159 => (if t159 = true then ((spec_span_has.f 1 8 a0_2).bind fun t160 => (if t160 = true then ((spec_span_has.f 1 10 a0_4).bind fun t161 => (if t161 = true then ((spec_span_has.f 0 a0_4 a0_3).bind fun t162 => (if t162 = true then ((spec_span_has.f 0 30 a0_5).bind fun t163 => (spec_Config.j0 k (!t163))) else (spec_Config.j0 k (!t162)))) else (spec_Config.j0 k (!t161)))) else (spec_Config.j0 k (!t160)))) else (spec_Config.j0 k (!t159)))) = some r := by rw [if_pos rfl] at H; exact H
    clear H
    have H := H1
    clear H1
    replace H := Option.bind_eq_some_iff.mp H
    obtain ⟨t159, A40, H⟩ := H
    replace H : (if t159 = true then ((spec_span_has.f 1 8 a0_2).bind fun t160 => (if t160 = true then ((spec_span_has.f 1 10 a0_4).bind fun t161 => (if t161 = true then ((spec_span_has.f 0 a0_4 a0_3).bind fun t162 => (if t162 = true then ((spec_span_has.f 0 30 a0_5).bind fun t163 => (spec_Config.j0 k (!t163))) else (spec_Config.j0 k (!t162)))) else (spec_Config.j0 k (!t161)))) else (spec_Config.j0 k (!t160)))) else (spec_Config.j0 k (!t159))) = some r := H
    have A4 := Aside0.mk A40
    clear A40
    have HC5 := Aside0.mk H
    clear H
    go_enter Tryd.func39, Tryd.ntmps39
    go_upto_if 8 with (first | ((with_reducible refine gate_dst (N := 1) rfl ?_); refine box_event ?hg (N := 1) ?hd (cs := #[.string a0_0, .int .i64 a0_1, .int .i64 a0_2, .int .i64 a0_3, .int .i64 a0_4, .int .i64 a0_5]) (t := 23) ?hr ?_; (case hd => rfl); (case hg => rfl); (case hr => first | (go_simp; done) | (go_simp; rfl)); intro gb157 hg w6 hbox hb; have n0_ := Aside0.mk (below_step (by repeat (first | (with_reducible first | exact HB.out | apply below_alloc | apply pw_below_drewN | apply below_drew1) | exact HB.out)) hb); have n1_ := Aside0.mk (hbox); have n2_ := Aside0.mk ((by rw [hg]; exact (below_size (by repeat (first | (with_reducible first | exact HB.out | apply below_alloc | apply pw_below_drewN | apply below_drew1) | exact HB.out))) : w.heap.size ≤ gb157)); have n3_ := Aside0.mk ((by rw [hg]; exact (below_size (by repeat (first | (with_reducible first | exact HB.out | apply below_alloc | apply pw_below_drewN | apply below_drew1) | exact HB.out))) : w.heap.size ≤ gb157)); clear HB; have HB := n0_; have BK157 := n1_; have GW157 := n2_; have GE157 := n3_; clear n0_ n1_ n2_ n3_; clear hb hbox hg; have hcz7_0 : w6.cell? ⟨gb157, 0, none⟩ = some (.string a0_0) := bc BK157 0; have hcz7_1 : w6.cell? ⟨gb157, 1, none⟩ = some (.int .i64 a0_1) := bc BK157 1; have hcz7_2 : w6.cell? ⟨gb157, 2, none⟩ = some (.int .i64 a0_2) := bc BK157 2; have hcz7_3 : w6.cell? ⟨gb157, 3, none⟩ = some (.int .i64 a0_3) := bc BK157 3; have hcz7_4 : w6.cell? ⟨gb157, 4, none⟩ = some (.int .i64 a0_4) := bc BK157 4; have hcz7_5 : w6.cell? ⟨gb157, 5, none⟩ = some (.int .i64 a0_5) := bc BK157 5; have hfz7_0 := blk_frozen BK157.out 0; have hfz7_1 := blk_frozen BK157.out 1; have hfz7_2 := blk_frozen BK157.out 2; have hfz7_3 := blk_frozen BK157.out 3; have hfz7_4 := blk_frozen BK157.out 4; have hfz7_5 := blk_frozen BK157.out 5) | ((with_reducible refine gate_callee (f := 70) rfl ?_); refine goesL_ (some 6) rfl rfl Tryd.func70 (by kernel_rfl) rfl #[.string a0_0] rfl (by (try simp only [List.map_toArray, List.map_cons, List.map_nil]); first | done | rfl | (simp only [List.length_drop, List.length_take]; rfl)) ?_; (with_reducible refine (label_Name.calls a0_0 true _ A2.out).mono ?_); rintro e w8 ⟨rfl, hb⟩; refine ⟨_, rfl, ?_⟩; have n0_ := Aside0.mk (blk_below (g := gb157) (pk BK157) hb); have n1_ := Aside0.mk (below_step (by repeat (first | (with_reducible first | exact HB.out | apply below_alloc | apply pw_below_drewN | apply below_drew1 | refine below_set ?_ GE157.out) | exact HB.out)) hb); clear BK157; clear HB; have BK157 := n0_; have HB := n1_; clear n0_ n1_; (try clear hb); (try clear hb2); (try clear hk); (try clear hi); have hcz9_0 : w8.cell? ⟨gb157, 0, none⟩ = some (.string a0_0) := bc BK157 0; have hcz9_1 : w8.cell? ⟨gb157, 1, none⟩ = some (.int .i64 a0_1) := bc BK157 1; have hcz9_2 : w8.cell? ⟨gb157, 2, none⟩ = some (.int .i64 a0_2) := bc BK157 2; have hcz9_3 : w8.cell? ⟨gb157, 3, none⟩ = some (.int .i64 a0_3) := bc BK157 3; have hcz9_4 : w8.cell? ⟨gb157, 4, none⟩ = some (.int .i64 a0_4) := bc BK157 4; have hcz9_5 : w8.cell? ⟨gb157, 5, none⟩ = some (.int .i64 a0_5) := bc BK157 5; have hfz9_0 := blk_frozen BK157.out 0; have hfz9_1 := blk_frozen BK157.out 1; have hfz9_2 := blk_frozen BK157.out 2; have hfz9_3 := blk_frozen BK157.out 3; have hfz9_4 := blk_frozen BK157.out 4; have hfz9_5 := blk_frozen BK157.out 5) | ((with_reducible refine gate_callee (f := 72) rfl ?_); refine goesL_ (some 12) rfl rfl Tryd.func72 (by kernel_rfl) rfl #[.agg #[.int .i64 0, .int .i64 255], .int .i64 a0_1] rfl (by (try simp only [List.map_toArray, List.map_cons, List.map_nil]); first | done | rfl | (simp only [List.length_drop, List.length_take]; rfl)) ?_; (with_reducible refine (spec_span_has.calls 0 255 a0_1 t159 _ A4.out).mono ?_); rintro e w10 ⟨rfl, hb⟩; refine ⟨_, rfl, ?_⟩; have n0_ := Aside0.mk (blk_below (g := gb157) (pk BK157) hb); have n1_ := Aside0.mk (below_step (by repeat (first | (with_reducible first | exact HB.out | apply below_alloc | apply pw_below_drewN | apply below_drew1 | refine below_set ?_ GE157.out) | exact HB.out)) hb); clear BK157; clear HB; have BK157 := n0_; have HB := n1_; clear n0_ n1_; (try clear hb); (try clear hb2); (try clear hk); (try clear hi)))
    (try simp only [Act.put, List.setIfInBounds_toArray, List.set_cons_zero, List.set_cons_succ])
    go_cut [8] (fun v8 wc => ∃ (kq : Nat) (x8_4 : Bool), v8 = .bool x8_4 ∧ Aside0 (spec_Config.j0 kq x8_4 = some r) ∧ Aside0 (kq ≤ k) ∧ Aside0 (wc.heap[gb157]? = some (.cells #[.string a0_0, .int .i64 a0_1, .int .i64 a0_2, .int .i64 a0_3, .int .i64 a0_4, .int .i64 a0_5] 23 (0, 0))) ∧ Aside0 (Below w.heap.size w wc))
    case first =>
      have H := HC5.out
      clear HC5
      by_cases c11 : t159 = true
      · subst c11
        have H1 : ((spec_span_has.f 1 8 a0_2).bind fun t160 => (if t160 = true then ((spec_span_has.f 1 10 a0_4).bind fun t161 => (if t161 = true then ((spec_span_has.f 0 a0_4 a0_3).bind fun t162 => (if t162 = true then ((spec_span_has.f 0 30 a0_5).bind fun t163 => (spec_Config.j0 k (!t163))) else (spec_Config.j0 k (!t162)))) else (spec_Config.j0 k (!t161)))) else (spec_Config.j0 k (!t160)))) = some r := by rw [if_pos rfl] at H; exact H
        clear H
        have H := H1
        clear H1
        replace H := Option.bind_eq_some_iff.mp H
        obtain ⟨t160, A120, H⟩ := H
        replace H : (if t160 = true then ((spec_span_has.f 1 10 a0_4).bind fun t161 => (if t161 = true then ((spec_span_has.f 0 a0_4 a0_3).bind fun t162 => (if t162 = true then ((spec_span_has.f 0 30 a0_5).bind fun t163 => (spec_Config.j0 k (!t163))) else (spec_Config.j0 k (!t162)))) else (spec_Config.j0 k (!t161)))) else (spec_Config.j0 k (!t160))) = some r := H
        have A12 := Aside0.mk A120
        clear A120
        by_cases c13 : t160 = true
        · subst c13
          have H1 : ((spec_span_has.f 1 10 a0_4).bind fun t161 => (if t161 = true then ((spec_span_has.f 0 a0_4 a0_3).bind fun t162 => (if t162 = true then ((spec_span_has.f 0 30 a0_5).bind fun t163 => (spec_Config.j0 k (!t163))) else (spec_Config.j0 k (!t162)))) else (spec_Config.j0 k (!t161)))) = some r := by rw [if_pos rfl] at H; exact H
          clear H
          have H := H1
          clear H1
          replace H := Option.bind_eq_some_iff.mp H
          obtain ⟨t161, A140, H⟩ := H
          replace H : (if t161 = true then ((spec_span_has.f 0 a0_4 a0_3).bind fun t162 => (if t162 = true then ((spec_span_has.f 0 30 a0_5).bind fun t163 => (spec_Config.j0 k (!t163))) else (spec_Config.j0 k (!t162)))) else (spec_Config.j0 k (!t161))) = some r := H
          have A14 := Aside0.mk A140
          clear A140
          by_cases c15 : t161 = true
          · subst c15
            have H1 : ((spec_span_has.f 0 a0_4 a0_3).bind fun t162 => (if t162 = true then ((spec_span_has.f 0 30 a0_5).bind fun t163 => (spec_Config.j0 k (!t163))) else (spec_Config.j0 k (!t162)))) = some r := by rw [if_pos rfl] at H; exact H
            clear H
            have H := H1
            clear H1
            replace H := Option.bind_eq_some_iff.mp H
            obtain ⟨t162, A160, H⟩ := H
            replace H : (if t162 = true then ((spec_span_has.f 0 30 a0_5).bind fun t163 => (spec_Config.j0 k (!t163))) else (spec_Config.j0 k (!t162))) = some r := H
            have A16 := Aside0.mk A160
            clear A160
            by_cases c17 : t162 = true
            · subst c17
              have H1 : ((spec_span_has.f 0 30 a0_5).bind fun t163 => (spec_Config.j0 k (!t163))) = some r := by rw [if_pos rfl] at H; exact H
              clear H
              have H := H1
              clear H1
              replace H := Option.bind_eq_some_iff.mp H
              obtain ⟨t163, A180, H⟩ := H
              replace H : (spec_Config.j0 k (!t163)) = some r := H
              have A18 := Aside0.mk A180
              clear A180
              have H' := Aside0.mk H
              clear H
              have hcz19_0 : w10.cell? ⟨gb157, 0, none⟩ = some (.string a0_0) := bc BK157 0
              have hcz19_1 : w10.cell? ⟨gb157, 1, none⟩ = some (.int .i64 a0_1) := bc BK157 1
              have hcz19_2 : w10.cell? ⟨gb157, 2, none⟩ = some (.int .i64 a0_2) := bc BK157 2
              have hcz19_3 : w10.cell? ⟨gb157, 3, none⟩ = some (.int .i64 a0_3) := bc BK157 3
              have hcz19_4 : w10.cell? ⟨gb157, 4, none⟩ = some (.int .i64 a0_4) := bc BK157 4
              have hcz19_5 : w10.cell? ⟨gb157, 5, none⟩ = some (.int .i64 a0_5) := bc BK157 5
              have hfz19_0 := blk_frozen BK157.out 0
              have hfz19_1 := blk_frozen BK157.out 1
              have hfz19_2 := blk_frozen BK157.out 2
              have hfz19_3 := blk_frozen BK157.out 3
              have hfz19_4 := blk_frozen BK157.out 4
              have hfz19_5 := blk_frozen BK157.out 5
              go_wp2_with (first | ((with_reducible refine gate_callee (f := 72) rfl ?_); refine goesL_ (some 17) rfl rfl Tryd.func72 (by kernel_rfl) rfl #[.agg #[.int .i64 1, .int .i64 8], .int .i64 a0_2] rfl (by (try simp only [List.map_toArray, List.map_cons, List.map_nil]); first | done | rfl | (simp only [List.length_drop, List.length_take]; rfl)) ?_; (with_reducible refine (spec_span_has.calls 1 8 a0_2 true _ A12.out).mono ?_); rintro e w20 ⟨rfl, hb⟩; refine ⟨_, rfl, ?_⟩; have n0_ := Aside0.mk (blk_below (g := gb157) (pk BK157) hb); have n1_ := Aside0.mk (below_step (by repeat (first | (with_reducible first | exact HB.out | apply below_alloc | apply pw_below_drewN | apply below_drew1 | refine below_set ?_ GE157.out) | exact HB.out)) hb); clear BK157; clear HB; have BK157 := n0_; have HB := n1_; clear n0_ n1_; (try clear hb); (try clear hb2); (try clear hk); (try clear hi); have hcz21_0 : w20.cell? ⟨gb157, 0, none⟩ = some (.string a0_0) := bc BK157 0; have hcz21_1 : w20.cell? ⟨gb157, 1, none⟩ = some (.int .i64 a0_1) := bc BK157 1; have hcz21_2 : w20.cell? ⟨gb157, 2, none⟩ = some (.int .i64 a0_2) := bc BK157 2; have hcz21_3 : w20.cell? ⟨gb157, 3, none⟩ = some (.int .i64 a0_3) := bc BK157 3; have hcz21_4 : w20.cell? ⟨gb157, 4, none⟩ = some (.int .i64 a0_4) := bc BK157 4; have hcz21_5 : w20.cell? ⟨gb157, 5, none⟩ = some (.int .i64 a0_5) := bc BK157 5; have hfz21_0 := blk_frozen BK157.out 0; have hfz21_1 := blk_frozen BK157.out 1; have hfz21_2 := blk_frozen BK157.out 2; have hfz21_3 := blk_frozen BK157.out 3; have hfz21_4 := blk_frozen BK157.out 4; have hfz21_5 := blk_frozen BK157.out 5) | ((with_reducible refine gate_callee (f := 72) rfl ?_); refine goesL_ (some 22) rfl rfl Tryd.func72 (by kernel_rfl) rfl #[.agg #[.int .i64 1, .int .i64 10], .int .i64 a0_4] rfl (by (try simp only [List.map_toArray, List.map_cons, List.map_nil]); first | done | rfl | (simp only [List.length_drop, List.length_take]; rfl)) ?_; (with_reducible refine (spec_span_has.calls 1 10 a0_4 true _ A14.out).mono ?_); rintro e w22 ⟨rfl, hb⟩; refine ⟨_, rfl, ?_⟩; have n0_ := Aside0.mk (blk_below (g := gb157) (pk BK157) hb); have n1_ := Aside0.mk (below_step (by repeat (first | (with_reducible first | exact HB.out | apply below_alloc | apply pw_below_drewN | apply below_drew1 | refine below_set ?_ GE157.out) | exact HB.out)) hb); clear BK157; clear HB; have BK157 := n0_; have HB := n1_; clear n0_ n1_; (try clear hb); (try clear hb2); (try clear hk); (try clear hi); have hcz23_0 : w22.cell? ⟨gb157, 0, none⟩ = some (.string a0_0) := bc BK157 0; have hcz23_1 : w22.cell? ⟨gb157, 1, none⟩ = some (.int .i64 a0_1) := bc BK157 1; have hcz23_2 : w22.cell? ⟨gb157, 2, none⟩ = some (.int .i64 a0_2) := bc BK157 2; have hcz23_3 : w22.cell? ⟨gb157, 3, none⟩ = some (.int .i64 a0_3) := bc BK157 3; have hcz23_4 : w22.cell? ⟨gb157, 4, none⟩ = some (.int .i64 a0_4) := bc BK157 4; have hcz23_5 : w22.cell? ⟨gb157, 5, none⟩ = some (.int .i64 a0_5) := bc BK157 5; have hfz23_0 := blk_frozen BK157.out 0; have hfz23_1 := blk_frozen BK157.out 1; have hfz23_2 := blk_frozen BK157.out 2; have hfz23_3 := blk_frozen BK157.out 3; have hfz23_4 := blk_frozen BK157.out 4; have hfz23_5 := blk_frozen BK157.out 5) | ((with_reducible refine gate_callee (f := 72) rfl ?_); refine goesL_ (some 29) rfl rfl Tryd.func72 (by kernel_rfl) rfl #[.agg #[.int .i64 0, .int .i64 a0_4], .int .i64 a0_3] rfl (by (try simp only [List.map_toArray, List.map_cons, List.map_nil]); first | done | rfl | (simp only [List.length_drop, List.length_take]; rfl)) ?_; (with_reducible refine (spec_span_has.calls 0 a0_4 a0_3 true _ A16.out).mono ?_); rintro e w24 ⟨rfl, hb⟩; refine ⟨_, rfl, ?_⟩; have n0_ := Aside0.mk (blk_below (g := gb157) (pk BK157) hb); have n1_ := Aside0.mk (below_step (by repeat (first | (with_reducible first | exact HB.out | apply below_alloc | apply pw_below_drewN | apply below_drew1 | refine below_set ?_ GE157.out) | exact HB.out)) hb); clear BK157; clear HB; have BK157 := n0_; have HB := n1_; clear n0_ n1_; (try clear hb); (try clear hb2); (try clear hk); (try clear hi); have hcz25_0 : w24.cell? ⟨gb157, 0, none⟩ = some (.string a0_0) := bc BK157 0; have hcz25_1 : w24.cell? ⟨gb157, 1, none⟩ = some (.int .i64 a0_1) := bc BK157 1; have hcz25_2 : w24.cell? ⟨gb157, 2, none⟩ = some (.int .i64 a0_2) := bc BK157 2; have hcz25_3 : w24.cell? ⟨gb157, 3, none⟩ = some (.int .i64 a0_3) := bc BK157 3; have hcz25_4 : w24.cell? ⟨gb157, 4, none⟩ = some (.int .i64 a0_4) := bc BK157 4; have hcz25_5 : w24.cell? ⟨gb157, 5, none⟩ = some (.int .i64 a0_5) := bc BK157 5; have hfz25_0 := blk_frozen BK157.out 0; have hfz25_1 := blk_frozen BK157.out 1; have hfz25_2 := blk_frozen BK157.out 2; have hfz25_3 := blk_frozen BK157.out 3; have hfz25_4 := blk_frozen BK157.out 4; have hfz25_5 := blk_frozen BK157.out 5) | ((with_reducible refine gate_callee (f := 72) rfl ?_); refine goesL_ (some 34) rfl rfl Tryd.func72 (by kernel_rfl) rfl #[.agg #[.int .i64 0, .int .i64 30], .int .i64 a0_5] rfl (by (try simp only [List.map_toArray, List.map_cons, List.map_nil]); first | done | rfl | (simp only [List.length_drop, List.length_take]; rfl)) ?_; (with_reducible refine (spec_span_has.calls 0 30 a0_5 t163 _ A18.out).mono ?_); rintro e w26 ⟨rfl, hb⟩; refine ⟨_, rfl, ?_⟩; have n0_ := Aside0.mk (blk_below (g := gb157) (pk BK157) hb); have n1_ := Aside0.mk (below_step (by repeat (first | (with_reducible first | exact HB.out | apply below_alloc | apply pw_below_drewN | apply below_drew1 | refine below_set ?_ GE157.out) | exact HB.out)) hb); clear BK157; clear HB; have BK157 := n0_; have HB := n1_; clear n0_ n1_; (try clear hb); (try clear hb2); (try clear hk); (try clear hi)))
              go_meet
              case rel => exact ⟨_, (!t163), (by first | rfl | (simp; done) | (simp [*]; done)), H', ⟨by first | omega | exact Nat.le_refl _⟩, ⟨by (with_reducible repeat (first | refine blk_drewN ?_ _ | refine blk_drew ?_ | refine blk_alloc ?_ _)); exact BK157.out⟩, ⟨by repeat (first | (with_reducible first | exact HB.out | apply below_alloc | apply pw_below_drewN | apply below_drew1 | refine below_set ?_ GE157.out) | exact HB.out)⟩⟩
            · replace c17 := Bool.eq_false_iff.mpr c17
              subst c17
              have H1 : (spec_Config.j0 k (!false)) = some r := by rw [if_neg (show ¬ (false = true) by decide)] at H; exact H
              clear H
              have H := H1
              clear H1
              have H' := Aside0.mk H
              clear H
              have hcz27_0 : w10.cell? ⟨gb157, 0, none⟩ = some (.string a0_0) := bc BK157 0
              have hcz27_1 : w10.cell? ⟨gb157, 1, none⟩ = some (.int .i64 a0_1) := bc BK157 1
              have hcz27_2 : w10.cell? ⟨gb157, 2, none⟩ = some (.int .i64 a0_2) := bc BK157 2
              have hcz27_3 : w10.cell? ⟨gb157, 3, none⟩ = some (.int .i64 a0_3) := bc BK157 3
              have hcz27_4 : w10.cell? ⟨gb157, 4, none⟩ = some (.int .i64 a0_4) := bc BK157 4
              have hcz27_5 : w10.cell? ⟨gb157, 5, none⟩ = some (.int .i64 a0_5) := bc BK157 5
              have hfz27_0 := blk_frozen BK157.out 0
              have hfz27_1 := blk_frozen BK157.out 1
              have hfz27_2 := blk_frozen BK157.out 2
              have hfz27_3 := blk_frozen BK157.out 3
              have hfz27_4 := blk_frozen BK157.out 4
              have hfz27_5 := blk_frozen BK157.out 5
              go_wp2_with (first | ((with_reducible refine gate_callee (f := 72) rfl ?_); refine goesL_ (some 17) rfl rfl Tryd.func72 (by kernel_rfl) rfl #[.agg #[.int .i64 1, .int .i64 8], .int .i64 a0_2] rfl (by (try simp only [List.map_toArray, List.map_cons, List.map_nil]); first | done | rfl | (simp only [List.length_drop, List.length_take]; rfl)) ?_; (with_reducible refine (spec_span_has.calls 1 8 a0_2 true _ A12.out).mono ?_); rintro e w28 ⟨rfl, hb⟩; refine ⟨_, rfl, ?_⟩; have n0_ := Aside0.mk (blk_below (g := gb157) (pk BK157) hb); have n1_ := Aside0.mk (below_step (by repeat (first | (with_reducible first | exact HB.out | apply below_alloc | apply pw_below_drewN | apply below_drew1 | refine below_set ?_ GE157.out) | exact HB.out)) hb); clear BK157; clear HB; have BK157 := n0_; have HB := n1_; clear n0_ n1_; (try clear hb); (try clear hb2); (try clear hk); (try clear hi); have hcz29_0 : w28.cell? ⟨gb157, 0, none⟩ = some (.string a0_0) := bc BK157 0; have hcz29_1 : w28.cell? ⟨gb157, 1, none⟩ = some (.int .i64 a0_1) := bc BK157 1; have hcz29_2 : w28.cell? ⟨gb157, 2, none⟩ = some (.int .i64 a0_2) := bc BK157 2; have hcz29_3 : w28.cell? ⟨gb157, 3, none⟩ = some (.int .i64 a0_3) := bc BK157 3; have hcz29_4 : w28.cell? ⟨gb157, 4, none⟩ = some (.int .i64 a0_4) := bc BK157 4; have hcz29_5 : w28.cell? ⟨gb157, 5, none⟩ = some (.int .i64 a0_5) := bc BK157 5; have hfz29_0 := blk_frozen BK157.out 0; have hfz29_1 := blk_frozen BK157.out 1; have hfz29_2 := blk_frozen BK157.out 2; have hfz29_3 := blk_frozen BK157.out 3; have hfz29_4 := blk_frozen BK157.out 4; have hfz29_5 := blk_frozen BK157.out 5) | ((with_reducible refine gate_callee (f := 72) rfl ?_); refine goesL_ (some 22) rfl rfl Tryd.func72 (by kernel_rfl) rfl #[.agg #[.int .i64 1, .int .i64 10], .int .i64 a0_4] rfl (by (try simp only [List.map_toArray, List.map_cons, List.map_nil]); first | done | rfl | (simp only [List.length_drop, List.length_take]; rfl)) ?_; (with_reducible refine (spec_span_has.calls 1 10 a0_4 true _ A14.out).mono ?_); rintro e w30 ⟨rfl, hb⟩; refine ⟨_, rfl, ?_⟩; have n0_ := Aside0.mk (blk_below (g := gb157) (pk BK157) hb); have n1_ := Aside0.mk (below_step (by repeat (first | (with_reducible first | exact HB.out | apply below_alloc | apply pw_below_drewN | apply below_drew1 | refine below_set ?_ GE157.out) | exact HB.out)) hb); clear BK157; clear HB; have BK157 := n0_; have HB := n1_; clear n0_ n1_; (try clear hb); (try clear hb2); (try clear hk); (try clear hi); have hcz31_0 : w30.cell? ⟨gb157, 0, none⟩ = some (.string a0_0) := bc BK157 0; have hcz31_1 : w30.cell? ⟨gb157, 1, none⟩ = some (.int .i64 a0_1) := bc BK157 1; have hcz31_2 : w30.cell? ⟨gb157, 2, none⟩ = some (.int .i64 a0_2) := bc BK157 2; have hcz31_3 : w30.cell? ⟨gb157, 3, none⟩ = some (.int .i64 a0_3) := bc BK157 3; have hcz31_4 : w30.cell? ⟨gb157, 4, none⟩ = some (.int .i64 a0_4) := bc BK157 4; have hcz31_5 : w30.cell? ⟨gb157, 5, none⟩ = some (.int .i64 a0_5) := bc BK157 5; have hfz31_0 := blk_frozen BK157.out 0; have hfz31_1 := blk_frozen BK157.out 1; have hfz31_2 := blk_frozen BK157.out 2; have hfz31_3 := blk_frozen BK157.out 3; have hfz31_4 := blk_frozen BK157.out 4; have hfz31_5 := blk_frozen BK157.out 5) | ((with_reducible refine gate_callee (f := 72) rfl ?_); refine goesL_ (some 29) rfl rfl Tryd.func72 (by kernel_rfl) rfl #[.agg #[.int .i64 0, .int .i64 a0_4], .int .i64 a0_3] rfl (by (try simp only [List.map_toArray, List.map_cons, List.map_nil]); first | done | rfl | (simp only [List.length_drop, List.length_take]; rfl)) ?_; (with_reducible refine (spec_span_has.calls 0 a0_4 a0_3 false _ A16.out).mono ?_); rintro e w32 ⟨rfl, hb⟩; refine ⟨_, rfl, ?_⟩; have n0_ := Aside0.mk (blk_below (g := gb157) (pk BK157) hb); have n1_ := Aside0.mk (below_step (by repeat (first | (with_reducible first | exact HB.out | apply below_alloc | apply pw_below_drewN | apply below_drew1 | refine below_set ?_ GE157.out) | exact HB.out)) hb); clear BK157; clear HB; have BK157 := n0_; have HB := n1_; clear n0_ n1_; (try clear hb); (try clear hb2); (try clear hk); (try clear hi)))
              go_meet
              case rel => exact ⟨_, (!false), (by first | rfl | (simp; done) | (simp [*]; done)), H', ⟨by first | omega | exact Nat.le_refl _⟩, ⟨by (with_reducible repeat (first | refine blk_drewN ?_ _ | refine blk_drew ?_ | refine blk_alloc ?_ _)); exact BK157.out⟩, ⟨by repeat (first | (with_reducible first | exact HB.out | apply below_alloc | apply pw_below_drewN | apply below_drew1 | refine below_set ?_ GE157.out) | exact HB.out)⟩⟩
          · replace c15 := Bool.eq_false_iff.mpr c15
            subst c15
            have H1 : (spec_Config.j0 k (!false)) = some r := by rw [if_neg (show ¬ (false = true) by decide)] at H; exact H
            clear H
            have H := H1
            clear H1
            have H' := Aside0.mk H
            clear H
            have hcz33_0 : w10.cell? ⟨gb157, 0, none⟩ = some (.string a0_0) := bc BK157 0
            have hcz33_1 : w10.cell? ⟨gb157, 1, none⟩ = some (.int .i64 a0_1) := bc BK157 1
            have hcz33_2 : w10.cell? ⟨gb157, 2, none⟩ = some (.int .i64 a0_2) := bc BK157 2
            have hcz33_3 : w10.cell? ⟨gb157, 3, none⟩ = some (.int .i64 a0_3) := bc BK157 3
            have hcz33_4 : w10.cell? ⟨gb157, 4, none⟩ = some (.int .i64 a0_4) := bc BK157 4
            have hcz33_5 : w10.cell? ⟨gb157, 5, none⟩ = some (.int .i64 a0_5) := bc BK157 5
            have hfz33_0 := blk_frozen BK157.out 0
            have hfz33_1 := blk_frozen BK157.out 1
            have hfz33_2 := blk_frozen BK157.out 2
            have hfz33_3 := blk_frozen BK157.out 3
            have hfz33_4 := blk_frozen BK157.out 4
            have hfz33_5 := blk_frozen BK157.out 5
            go_wp2_with (first | ((with_reducible refine gate_callee (f := 72) rfl ?_); refine goesL_ (some 17) rfl rfl Tryd.func72 (by kernel_rfl) rfl #[.agg #[.int .i64 1, .int .i64 8], .int .i64 a0_2] rfl (by (try simp only [List.map_toArray, List.map_cons, List.map_nil]); first | done | rfl | (simp only [List.length_drop, List.length_take]; rfl)) ?_; (with_reducible refine (spec_span_has.calls 1 8 a0_2 true _ A12.out).mono ?_); rintro e w34 ⟨rfl, hb⟩; refine ⟨_, rfl, ?_⟩; have n0_ := Aside0.mk (blk_below (g := gb157) (pk BK157) hb); have n1_ := Aside0.mk (below_step (by repeat (first | (with_reducible first | exact HB.out | apply below_alloc | apply pw_below_drewN | apply below_drew1 | refine below_set ?_ GE157.out) | exact HB.out)) hb); clear BK157; clear HB; have BK157 := n0_; have HB := n1_; clear n0_ n1_; (try clear hb); (try clear hb2); (try clear hk); (try clear hi); have hcz35_0 : w34.cell? ⟨gb157, 0, none⟩ = some (.string a0_0) := bc BK157 0; have hcz35_1 : w34.cell? ⟨gb157, 1, none⟩ = some (.int .i64 a0_1) := bc BK157 1; have hcz35_2 : w34.cell? ⟨gb157, 2, none⟩ = some (.int .i64 a0_2) := bc BK157 2; have hcz35_3 : w34.cell? ⟨gb157, 3, none⟩ = some (.int .i64 a0_3) := bc BK157 3; have hcz35_4 : w34.cell? ⟨gb157, 4, none⟩ = some (.int .i64 a0_4) := bc BK157 4; have hcz35_5 : w34.cell? ⟨gb157, 5, none⟩ = some (.int .i64 a0_5) := bc BK157 5; have hfz35_0 := blk_frozen BK157.out 0; have hfz35_1 := blk_frozen BK157.out 1; have hfz35_2 := blk_frozen BK157.out 2; have hfz35_3 := blk_frozen BK157.out 3; have hfz35_4 := blk_frozen BK157.out 4; have hfz35_5 := blk_frozen BK157.out 5) | ((with_reducible refine gate_callee (f := 72) rfl ?_); refine goesL_ (some 22) rfl rfl Tryd.func72 (by kernel_rfl) rfl #[.agg #[.int .i64 1, .int .i64 10], .int .i64 a0_4] rfl (by (try simp only [List.map_toArray, List.map_cons, List.map_nil]); first | done | rfl | (simp only [List.length_drop, List.length_take]; rfl)) ?_; (with_reducible refine (spec_span_has.calls 1 10 a0_4 false _ A14.out).mono ?_); rintro e w36 ⟨rfl, hb⟩; refine ⟨_, rfl, ?_⟩; have n0_ := Aside0.mk (blk_below (g := gb157) (pk BK157) hb); have n1_ := Aside0.mk (below_step (by repeat (first | (with_reducible first | exact HB.out | apply below_alloc | apply pw_below_drewN | apply below_drew1 | refine below_set ?_ GE157.out) | exact HB.out)) hb); clear BK157; clear HB; have BK157 := n0_; have HB := n1_; clear n0_ n1_; (try clear hb); (try clear hb2); (try clear hk); (try clear hi)))
            go_meet
            case rel => exact ⟨_, (!false), (by first | rfl | (simp; done) | (simp [*]; done)), H', ⟨by first | omega | exact Nat.le_refl _⟩, ⟨by (with_reducible repeat (first | refine blk_drewN ?_ _ | refine blk_drew ?_ | refine blk_alloc ?_ _)); exact BK157.out⟩, ⟨by repeat (first | (with_reducible first | exact HB.out | apply below_alloc | apply pw_below_drewN | apply below_drew1 | refine below_set ?_ GE157.out) | exact HB.out)⟩⟩
        · replace c13 := Bool.eq_false_iff.mpr c13
          subst c13
          have H1 : (spec_Config.j0 k (!false)) = some r := by rw [if_neg (show ¬ (false = true) by decide)] at H; exact H
          clear H
          have H := H1
          clear H1
          have H' := Aside0.mk H
          clear H
          have hcz37_0 : w10.cell? ⟨gb157, 0, none⟩ = some (.string a0_0) := bc BK157 0
          have hcz37_1 : w10.cell? ⟨gb157, 1, none⟩ = some (.int .i64 a0_1) := bc BK157 1
          have hcz37_2 : w10.cell? ⟨gb157, 2, none⟩ = some (.int .i64 a0_2) := bc BK157 2
          have hcz37_3 : w10.cell? ⟨gb157, 3, none⟩ = some (.int .i64 a0_3) := bc BK157 3
          have hcz37_4 : w10.cell? ⟨gb157, 4, none⟩ = some (.int .i64 a0_4) := bc BK157 4
          have hcz37_5 : w10.cell? ⟨gb157, 5, none⟩ = some (.int .i64 a0_5) := bc BK157 5
          have hfz37_0 := blk_frozen BK157.out 0
          have hfz37_1 := blk_frozen BK157.out 1
          have hfz37_2 := blk_frozen BK157.out 2
          have hfz37_3 := blk_frozen BK157.out 3
          have hfz37_4 := blk_frozen BK157.out 4
          have hfz37_5 := blk_frozen BK157.out 5
          go_wp2_with (first | ((with_reducible refine gate_callee (f := 72) rfl ?_); refine goesL_ (some 17) rfl rfl Tryd.func72 (by kernel_rfl) rfl #[.agg #[.int .i64 1, .int .i64 8], .int .i64 a0_2] rfl (by (try simp only [List.map_toArray, List.map_cons, List.map_nil]); first | done | rfl | (simp only [List.length_drop, List.length_take]; rfl)) ?_; (with_reducible refine (spec_span_has.calls 1 8 a0_2 false _ A12.out).mono ?_); rintro e w38 ⟨rfl, hb⟩; refine ⟨_, rfl, ?_⟩; have n0_ := Aside0.mk (blk_below (g := gb157) (pk BK157) hb); have n1_ := Aside0.mk (below_step (by repeat (first | (with_reducible first | exact HB.out | apply below_alloc | apply pw_below_drewN | apply below_drew1 | refine below_set ?_ GE157.out) | exact HB.out)) hb); clear BK157; clear HB; have BK157 := n0_; have HB := n1_; clear n0_ n1_; (try clear hb); (try clear hb2); (try clear hk); (try clear hi)))
          go_meet
          case rel => exact ⟨_, (!false), (by first | rfl | (simp; done) | (simp [*]; done)), H', ⟨by first | omega | exact Nat.le_refl _⟩, ⟨by (with_reducible repeat (first | refine blk_drewN ?_ _ | refine blk_drew ?_ | refine blk_alloc ?_ _)); exact BK157.out⟩, ⟨by repeat (first | (with_reducible first | exact HB.out | apply below_alloc | apply pw_below_drewN | apply below_drew1 | refine below_set ?_ GE157.out) | exact HB.out)⟩⟩
      · replace c11 := Bool.eq_false_iff.mpr c11
        subst c11
        have H1 : (spec_Config.j0 k (!false)) = some r := by rw [if_neg (show ¬ (false = true) by decide)] at H; exact H
        clear H
        have H := H1
        clear H1
        have H' := Aside0.mk H
        clear H
        go_wp2
        go_meet
        case rel => exact ⟨_, (!false), (by first | rfl | (simp; done) | (simp [*]; done)), H', ⟨by first | omega | exact Nat.le_refl _⟩, ⟨by (with_reducible repeat (first | refine blk_drewN ?_ _ | refine blk_drew ?_ | refine blk_alloc ?_ _)); exact BK157.out⟩, ⟨by repeat (first | (with_reducible first | exact HB.out | apply below_alloc | apply pw_below_drewN | apply below_drew1 | refine below_set ?_ GE157.out) | exact HB.out)⟩⟩
    case rest =>
      clear HC5
      try clear c1
      try clear p2
      try clear c3
      try clear c7
      try clear c11
      try clear c13
      try clear c15
      try clear c17
      try clear hcz19_0
      try clear hcz19_1
      try clear hcz19_2
      try clear hcz19_3
      try clear hcz19_4
      try clear hcz19_5
      try clear hcz21_0
      try clear hcz21_1
      try clear hcz21_2
      try clear hcz21_3
      try clear hcz21_4
      try clear hcz21_5
      try clear hcz23_0
      try clear hcz23_1
      try clear hcz23_2
      try clear hcz23_3
      try clear hcz23_4
      try clear hcz23_5
      try clear hcz25_0
      try clear hcz25_1
      try clear hcz25_2
      try clear hcz25_3
      try clear hcz25_4
      try clear hcz25_5
      try clear hcz27_0
      try clear hcz27_1
      try clear hcz27_2
      try clear hcz27_3
      try clear hcz27_4
      try clear hcz27_5
      try clear hcz29_0
      try clear hcz29_1
      try clear hcz29_2
      try clear hcz29_3
      try clear hcz29_4
      try clear hcz29_5
      try clear hcz31_0
      try clear hcz31_1
      try clear hcz31_2
      try clear hcz31_3
      try clear hcz31_4
      try clear hcz31_5
      try clear hcz33_0
      try clear hcz33_1
      try clear hcz33_2
      try clear hcz33_3
      try clear hcz33_4
      try clear hcz33_5
      try clear hcz35_0
      try clear hcz35_1
      try clear hcz35_2
      try clear hcz35_3
      try clear hcz35_4
      try clear hcz35_5
      try clear hcz37_0
      try clear hcz37_1
      try clear hcz37_2
      try clear hcz37_3
      try clear hcz37_4
      try clear hcz37_5
      try clear hcz7_0
      try clear hcz7_1
      try clear hcz7_2
      try clear hcz7_3
      try clear hcz7_4
      try clear hcz7_5
      try clear hcz9_0
      try clear hcz9_1
      try clear hcz9_2
      try clear hcz9_3
      try clear hcz9_4
      try clear hcz9_5
      try clear hfz19_0
      try clear hfz19_1
      try clear hfz19_2
      try clear hfz19_3
      try clear hfz19_4
      try clear hfz19_5
      try clear hfz21_0
      try clear hfz21_1
      try clear hfz21_2
      try clear hfz21_3
      try clear hfz21_4
      try clear hfz21_5
      try clear hfz23_0
      try clear hfz23_1
      try clear hfz23_2
      try clear hfz23_3
      try clear hfz23_4
      try clear hfz23_5
      try clear hfz25_0
      try clear hfz25_1
      try clear hfz25_2
      try clear hfz25_3
      try clear hfz25_4
      try clear hfz25_5
      try clear hfz27_0
      try clear hfz27_1
      try clear hfz27_2
      try clear hfz27_3
      try clear hfz27_4
      try clear hfz27_5
      try clear hfz29_0
      try clear hfz29_1
      try clear hfz29_2
      try clear hfz29_3
      try clear hfz29_4
      try clear hfz29_5
      try clear hfz31_0
      try clear hfz31_1
      try clear hfz31_2
      try clear hfz31_3
      try clear hfz31_4
      try clear hfz31_5
      try clear hfz33_0
      try clear hfz33_1
      try clear hfz33_2
      try clear hfz33_3
      try clear hfz33_4
      try clear hfz33_5
      try clear hfz35_0
      try clear hfz35_1
      try clear hfz35_2
      try clear hfz35_3
      try clear hfz35_4
      try clear hfz35_5
      try clear hfz37_0
      try clear hfz37_1
      try clear hfz37_2
      try clear hfz37_3
      try clear hfz37_4
      try clear hfz37_5
      try clear hfz7_0
      try clear hfz7_1
      try clear hfz7_2
      try clear hfz7_3
      try clear hfz7_4
      try clear hfz7_5
      try clear hfz9_0
      try clear hfz9_1
      try clear hfz9_2
      try clear hfz9_3
      try clear hfz9_4
      try clear hfz9_5
      obtain ⟨kq, x8_4, rfl, HA, HJ4, BK157, HB⟩ := hcut
      cases kq with
      | zero => exact absurd HA.out (by simp [spec_Config.j0])
      | succ kj4 =>
        have H := HA.out
        clear HA
        simp only [spec_Config.j0] at H
        by_cases c39 : x8_4 = true
        · subst c39
          have H1 : (some 2) = some r := by rw [if_pos rfl] at H; exact H
          clear H
          have H := H1
          clear H1
          obtain rfl := Option.some.inj H
          go_wp2
          go_ret
          exact ⟨by first | rfl | (simp [errW_none, errW_some] <;> rfl) | (simp [*, errW_none, errW_some] <;> rfl), by repeat (first | (with_reducible first | exact HB.out | apply below_alloc | apply pw_below_drewN | apply below_drew1 | refine below_set ?_ GE157.out) | exact HB.out)⟩
        · replace c39 := Bool.eq_false_iff.mpr c39
          subst c39
          have H1 : (some 0) = some r := by rw [if_neg (show ¬ (false = true) by decide)] at H; exact H
          clear H
          have H := H1
          clear H1
          obtain rfl := Option.some.inj H
          go_wp2
          go_ret
          exact ⟨by first | rfl | (simp [errW_none, errW_some] <;> rfl) | (simp [*, errW_none, errW_some] <;> rfl), by repeat (first | (with_reducible first | exact HB.out | apply below_alloc | apply pw_below_drewN | apply below_drew1 | refine below_set ?_ GE157.out) | exact HB.out)⟩
  · replace c3 := Bool.eq_false_iff.mpr c3
    subst c3
    have H1 : (some 1) = some r := by rw [if_neg (show ¬ (false = true) by decide)] at H; exact H
    clear H
    have H := H1
    clear H1
    obtain rfl := Option.some.inj H
    go_enter Tryd.func39, Tryd.ntmps39
    go_wp2_with (first | ((with_reducible refine gate_dst (N := 1) rfl ?_); refine box_event ?hg (N := 1) ?hd (cs := #[.string a0_0, .int .i64 a0_1, .int .i64 a0_2, .int .i64 a0_3, .int .i64 a0_4, .int .i64 a0_5]) (t := 23) ?hr ?_; (case hd => rfl); (case hg => rfl); (case hr => first | (go_simp; done) | (go_simp; rfl)); intro gb157 hg w40 hbox hb; have n0_ := Aside0.mk (below_step (by repeat (first | (with_reducible first | exact HB.out | apply below_alloc | apply pw_below_drewN | apply below_drew1) | exact HB.out)) hb); have n1_ := Aside0.mk (hbox); have n2_ := Aside0.mk ((by rw [hg]; exact (below_size (by repeat (first | (with_reducible first | exact HB.out | apply below_alloc | apply pw_below_drewN | apply below_drew1) | exact HB.out))) : w.heap.size ≤ gb157)); have n3_ := Aside0.mk ((by rw [hg]; exact (below_size (by repeat (first | (with_reducible first | exact HB.out | apply below_alloc | apply pw_below_drewN | apply below_drew1) | exact HB.out))) : w.heap.size ≤ gb157)); clear HB; have HB := n0_; have BK157 := n1_; have GW157 := n2_; have GE157 := n3_; clear n0_ n1_ n2_ n3_; clear hb hbox hg; have hcz41_0 : w40.cell? ⟨gb157, 0, none⟩ = some (.string a0_0) := bc BK157 0; have hcz41_1 : w40.cell? ⟨gb157, 1, none⟩ = some (.int .i64 a0_1) := bc BK157 1; have hcz41_2 : w40.cell? ⟨gb157, 2, none⟩ = some (.int .i64 a0_2) := bc BK157 2; have hcz41_3 : w40.cell? ⟨gb157, 3, none⟩ = some (.int .i64 a0_3) := bc BK157 3; have hcz41_4 : w40.cell? ⟨gb157, 4, none⟩ = some (.int .i64 a0_4) := bc BK157 4; have hcz41_5 : w40.cell? ⟨gb157, 5, none⟩ = some (.int .i64 a0_5) := bc BK157 5; have hfz41_0 := blk_frozen BK157.out 0; have hfz41_1 := blk_frozen BK157.out 1; have hfz41_2 := blk_frozen BK157.out 2; have hfz41_3 := blk_frozen BK157.out 3; have hfz41_4 := blk_frozen BK157.out 4; have hfz41_5 := blk_frozen BK157.out 5) | ((with_reducible refine gate_callee (f := 70) rfl ?_); refine goesL_ (some 6) rfl rfl Tryd.func70 (by kernel_rfl) rfl #[.string a0_0] rfl (by (try simp only [List.map_toArray, List.map_cons, List.map_nil]); first | done | rfl | (simp only [List.length_drop, List.length_take]; rfl)) ?_; (with_reducible refine (label_Name.calls a0_0 false _ A2.out).mono ?_); rintro e w42 ⟨rfl, hb⟩; refine ⟨_, rfl, ?_⟩; have n0_ := Aside0.mk (blk_below (g := gb157) (pk BK157) hb); have n1_ := Aside0.mk (below_step (by repeat (first | (with_reducible first | exact HB.out | apply below_alloc | apply pw_below_drewN | apply below_drew1 | refine below_set ?_ GE157.out) | exact HB.out)) hb); clear BK157; clear HB; have BK157 := n0_; have HB := n1_; clear n0_ n1_; (try clear hb); (try clear hb2); (try clear hk); (try clear hi)))
    go_ret
    exact ⟨by first | rfl | (simp [errW_none, errW_some] <;> rfl) | (simp [*, errW_none, errW_some] <;> rfl), by repeat (first | (with_reducible first | exact HB.out | apply below_alloc | apply pw_below_drewN | apply below_drew1 | refine below_set ?_ GE157.out) | exact HB.out)⟩

end Go.Proofs.YtalpoojepffldaaDoor.Ma
