-- Written by a program of this session (wip/tools/myprint.py), in the form of the kit's print. Not trusted: Lean checks it.
import Derived.Test.YthdpnbfjpbiieaaDoorMax0
import Derived.Test.YthdpnbfjpbiieaaDoorMax15
namespace Go.Proofs.YthdpnbfjpbiieaaDoor.Ma
open Go.RowKit Go.Proofs.YthdpnbfjpbiieaaDoorW.PrintWords Go.Proofs.YthdpnbfjpbiieaaDoorW.PrintLast Go.Proofs.YthdpnbfjpbiieaaDoorW.PrintMore
attribute [local go_sem] max2_int min2_int max_two min_two max_three min_three max_four min_four   -- for this text's walks alone
set_option linter.unusedVariables false
set_option linter.unusedSimpArgs false

/-! ### damperref2_Config: function 14 -/
def damperref2_Config.j0 : Nat → Bool → Option (Int)
  | 0, _ => none
  | k + 1, x56 => if x56 = true then (some 2) else (some 0)
def damperref2_Config.f (k : Nat) (a0_0 : ByteArray) (a0_1 : Int) (a0_2 : Int) (a0_3 : Int) (a0_4 : Int) (a0_5 : Int) : Option (Int) := (damperref1_Name.f k a0_0).bind fun t171 => (if t171 = true then (if a0_1 < 0 then (damperref2_Config.j0 k true) else (if a0_1 > 255 then (damperref2_Config.j0 k true) else (if a0_2 < 1 then (damperref2_Config.j0 k true) else (if a0_2 > 8 then (damperref2_Config.j0 k true) else (if a0_4 < 1 then (damperref2_Config.j0 k true) else (if a0_4 > 10 then (damperref2_Config.j0 k true) else (if a0_3 < 0 then (damperref2_Config.j0 k true) else (if a0_3 > a0_4 then (damperref2_Config.j0 k true) else (if a0_5 < 0 then (damperref2_Config.j0 k true) else (damperref2_Config.j0 k (decide (a0_5 > 30)))))))))))) else (some 1))
theorem damperref2_Config.mono_l : ∀ k, (∀ y0, LeO (damperref2_Config.j0 k y0) (damperref2_Config.j0 (k + 1) y0))
  | 0 => fun _ r h => by simp [damperref2_Config.j0] at h
  | k + 1 => by
    have ih0 := damperref2_Config.mono_l k
    · intro y0
      unfold damperref2_Config.j0
      repeat' first
      | (with_reducible exact ih0 _)
      | (with_reducible exact damperref1_Name.mono _ _)
      | (with_reducible exact LeO.refl _)
      | (with_reducible exact LeO.none _)
      | (with_reducible refine LeO.ite ?_ ?_)
      | (with_reducible refine LeO.bind ?_ (fun _ => ?_))
      | exact ih0 _
      | exact damperref1_Name.mono _ _
      | exact LeO.none _
      | refine LeO.ite ?_ ?_
      | refine LeO.bind ?_ (fun _ => ?_)
theorem damperref2_Config.mono : ∀ a0 a1 a2 a3 a4 a5 k, LeO (damperref2_Config.f k a0 a1 a2 a3 a4 a5) (damperref2_Config.f (k + 1) a0 a1 a2 a3 a4 a5) := by
  intro a0 a1 a2 a3 a4 a5 k
  have ih0 := damperref2_Config.mono_l k
  unfold damperref2_Config.f
  repeat' first
      | (with_reducible exact ih0 _)
      | (with_reducible exact damperref1_Name.mono _ _)
      | (with_reducible exact LeO.refl _)
      | (with_reducible exact LeO.none _)
      | (with_reducible refine LeO.ite ?_ ?_)
      | (with_reducible refine LeO.bind ?_ (fun _ => ?_))
      | exact ih0 _
      | exact damperref1_Name.mono _ _
      | exact LeO.none _
      | refine LeO.ite ?_ ?_
      | refine LeO.bind ?_ (fun _ => ?_)
set_option maxHeartbeats 8000000 in
set_option maxRecDepth 100000 in
theorem damperref2_Config.calls (k : Nat) (a0_0 : ByteArray) (a0_1 : Int) (a0_2 : Int) (a0_3 : Int) (a0_4 : Int) (a0_5 : Int) (r : Int) (w : World) (h : damperref2_Config.f k a0_0 a0_1 a0_2 a0_3 a0_4 a0_5 = some r) :
    Calls Tryd.prog 14 #[.agg #[.string a0_0, .int .i64 a0_1, .int .i64 a0_2, .int .i64 a0_3, .int .i64 a0_4, .int .i64 a0_5]] w fun e w' => e = .returned (.int .i64 r) ∧ Below w.heap.size w w' := by
  have hu23 := Tryd.underlying23
  have HB := Aside0.mk (Below.refl w.heap.size w)
  have H : ((damperref1_Name.f k a0_0).bind fun t171 => (if t171 = true then (if a0_1 < 0 then (damperref2_Config.j0 k true) else (if a0_1 > 255 then (damperref2_Config.j0 k true) else (if a0_2 < 1 then (damperref2_Config.j0 k true) else (if a0_2 > 8 then (damperref2_Config.j0 k true) else (if a0_4 < 1 then (damperref2_Config.j0 k true) else (if a0_4 > 10 then (damperref2_Config.j0 k true) else (if a0_3 < 0 then (damperref2_Config.j0 k true) else (if a0_3 > a0_4 then (damperref2_Config.j0 k true) else (if a0_5 < 0 then (damperref2_Config.j0 k true) else (damperref2_Config.j0 k (decide (a0_5 > 30)))))))))))) else (some 1))) = some r := h
  clear h
  replace H := Option.bind_eq_some_iff.mp H
  obtain ⟨t171, A20, H⟩ := H
  replace H : (if t171 = true then (if a0_1 < 0 then (damperref2_Config.j0 k true) else (if a0_1 > 255 then (damperref2_Config.j0 k true) else (if a0_2 < 1 then (damperref2_Config.j0 k true) else (if a0_2 > 8 then (damperref2_Config.j0 k true) else (if a0_4 < 1 then (damperref2_Config.j0 k true) else (if a0_4 > 10 then (damperref2_Config.j0 k true) else (if a0_3 < 0 then (damperref2_Config.j0 k true) else (if a0_3 > a0_4 then (damperref2_Config.j0 k true) else (if a0_5 < 0 then (damperref2_Config.j0 k true) else (damperref2_Config.j0 k (decide (a0_5 > 30)))))))))))) else (some 1)) = some r := H
  have A2 := Aside0.mk A20
  clear A20
  by_cases c3 : t171 = true
  · subst c3
    have H1 : (if a0_1 < 0 then (damperref2_Config.j0 k true) else (if a0_1 > 255 then (damperref2_Config.j0 k true) else (if a0_2 < 1 then (damperref2_Config.j0 k true) else (if a0_2 > 8 then (damperref2_Config.j0 k true) else (if a0_4 < 1 then (damperref2_Config.j0 k true) else (if a0_4 > 10 then (damperref2_Config.j0 k true) else (if a0_3 < 0 then (damperref2_Config.j0 k true) else (if a0_3 > a0_4 then (damperref2_Config.j0 k true) else (if a0_5 < 0 then (damperref2_Config.j0 k true) else (damperref2_Config.j0 k (decide (a0_5 > 30)))))))))))) = some r := by rw [if_pos rfl] at H; exact H
    clear H
    have H := H1
    clear H1
    have HC4 := Aside0.mk H
    clear H
    go_enter Tryd.func14, Tryd.ntmps14
    go_upto_region 3 with (first | ((with_reducible refine gate_dst (N := 1) rfl ?_); refine box_event ?hg (N := 1) ?hd (cs := #[.string a0_0, .int .i64 a0_1, .int .i64 a0_2, .int .i64 a0_3, .int .i64 a0_4, .int .i64 a0_5]) (t := 23) ?hr ?_; (case hd => rfl); (case hg => rfl); (case hr => first | (go_simp; done) | (go_simp; rfl)); intro gb170 hg w5 hbox hb; have n0_ := Aside0.mk (below_step (by repeat (first | (with_reducible first | exact HB.out | apply below_alloc | apply pw_below_drewN | apply below_drew1) | exact HB.out)) hb); have n1_ := Aside0.mk (hbox); have n2_ := Aside0.mk ((by rw [hg]; exact (below_size (by repeat (first | (with_reducible first | exact HB.out | apply below_alloc | apply pw_below_drewN | apply below_drew1) | exact HB.out))) : w.heap.size ≤ gb170)); have n3_ := Aside0.mk ((by rw [hg]; exact (below_size (by repeat (first | (with_reducible first | exact HB.out | apply below_alloc | apply pw_below_drewN | apply below_drew1) | exact HB.out))) : w.heap.size ≤ gb170)); clear HB; have HB := n0_; have BK170 := n1_; have GW170 := n2_; have GE170 := n3_; clear n0_ n1_ n2_ n3_; clear hb hbox hg; have hcz6_0 : w5.cell? ⟨gb170, 0, none⟩ = some (.string a0_0) := bc BK170 0; have hcz6_1 : w5.cell? ⟨gb170, 1, none⟩ = some (.int .i64 a0_1) := bc BK170 1; have hcz6_2 : w5.cell? ⟨gb170, 2, none⟩ = some (.int .i64 a0_2) := bc BK170 2; have hcz6_3 : w5.cell? ⟨gb170, 3, none⟩ = some (.int .i64 a0_3) := bc BK170 3; have hcz6_4 : w5.cell? ⟨gb170, 4, none⟩ = some (.int .i64 a0_4) := bc BK170 4; have hcz6_5 : w5.cell? ⟨gb170, 5, none⟩ = some (.int .i64 a0_5) := bc BK170 5; have hfz6_0 := blk_frozen BK170.out 0; have hfz6_1 := blk_frozen BK170.out 1; have hfz6_2 := blk_frozen BK170.out 2; have hfz6_3 := blk_frozen BK170.out 3; have hfz6_4 := blk_frozen BK170.out 4; have hfz6_5 := blk_frozen BK170.out 5) | ((with_reducible refine gate_callee (f := 26) rfl ?_); refine goesL_ (some 5) rfl rfl Tryd.func26 (by kernel_rfl) rfl #[.string a0_0] rfl (by (try simp only [List.map_toArray, List.map_cons, List.map_nil]); first | done | rfl | (simp only [List.length_drop, List.length_take]; rfl)) ?_; (with_reducible refine (damperref1_Name.calls k a0_0 true _ A2.out).mono ?_); rintro e w' ⟨rfl, ⟨nd, rfl⟩⟩; refine ⟨_, rfl, ?_⟩))
    (try simp only [Act.put, List.setIfInBounds_toArray, List.set_cons_zero, List.set_cons_succ])
    go_cut [56] (fun v56 wc => ∃ (kq : Nat) (x56_3 : Bool), v56 = .bool x56_3 ∧ Aside0 (damperref2_Config.j0 kq x56_3 = some r) ∧ Aside0 (kq ≤ k) ∧ Aside0 (wc.heap[gb170]? = some (.cells #[.string a0_0, .int .i64 a0_1, .int .i64 a0_2, .int .i64 a0_3, .int .i64 a0_4, .int .i64 a0_5] 23 (0, 0))) ∧ Aside0 (Below w.heap.size w wc))
    case first =>
      have H := HC4.out
      clear HC4
      by_cases c7 : a0_1 < 0
      · rw [if_pos c7] at H
        have c7b0 : decide (a0_1 < 0) = true := decide_eq_true c7
        clear c7
        (first | rw [c7b0] | (simp only [i64_w, i32_w]; rw [c7b0]) | rw [c7b1] | skip)
        have H' := Aside0.mk H
        clear H
        have hcz8_0 : w5.cell? ⟨gb170, 0, none⟩ = some (.string a0_0) := bc BK170 0
        have hcz8_1 : w5.cell? ⟨gb170, 1, none⟩ = some (.int .i64 a0_1) := bc BK170 1
        have hcz8_2 : w5.cell? ⟨gb170, 2, none⟩ = some (.int .i64 a0_2) := bc BK170 2
        have hcz8_3 : w5.cell? ⟨gb170, 3, none⟩ = some (.int .i64 a0_3) := bc BK170 3
        have hcz8_4 : w5.cell? ⟨gb170, 4, none⟩ = some (.int .i64 a0_4) := bc BK170 4
        have hcz8_5 : w5.cell? ⟨gb170, 5, none⟩ = some (.int .i64 a0_5) := bc BK170 5
        have hfz8_0 := blk_frozen BK170.out 0
        have hfz8_1 := blk_frozen BK170.out 1
        have hfz8_2 := blk_frozen BK170.out 2
        have hfz8_3 := blk_frozen BK170.out 3
        have hfz8_4 := blk_frozen BK170.out 4
        have hfz8_5 := blk_frozen BK170.out 5
        go_wp2
        go_meet
        case rel => exact ⟨_, (true), (by first | rfl | (simp; done) | (simp [*]; done)), H', ⟨by first | omega | exact Nat.le_refl _⟩, ⟨by (with_reducible repeat (first | refine blk_drewN ?_ _ | refine blk_drew ?_ | refine blk_alloc ?_ _)); exact BK170.out⟩, ⟨by repeat (first | (with_reducible first | exact HB.out | apply below_alloc | apply pw_below_drewN | apply below_drew1 | refine below_set ?_ GE170.out) | exact HB.out)⟩⟩
      · rw [if_neg c7] at H
        have c7b0 : decide (a0_1 < 0) = false := decide_eq_false c7
        clear c7
        (first | rw [c7b0] | (simp only [i64_w, i32_w]; rw [c7b0]) | rw [c7b1] | skip)
        by_cases c9 : a0_1 > 255
        · rw [if_pos c9] at H
          have c9b0 : decide (255 < a0_1) = true := decide_eq_true c9
          clear c9
          have H' := Aside0.mk H
          clear H
          have hcz10_0 : w5.cell? ⟨gb170, 0, none⟩ = some (.string a0_0) := bc BK170 0
          have hcz10_1 : w5.cell? ⟨gb170, 1, none⟩ = some (.int .i64 a0_1) := bc BK170 1
          have hcz10_2 : w5.cell? ⟨gb170, 2, none⟩ = some (.int .i64 a0_2) := bc BK170 2
          have hcz10_3 : w5.cell? ⟨gb170, 3, none⟩ = some (.int .i64 a0_3) := bc BK170 3
          have hcz10_4 : w5.cell? ⟨gb170, 4, none⟩ = some (.int .i64 a0_4) := bc BK170 4
          have hcz10_5 : w5.cell? ⟨gb170, 5, none⟩ = some (.int .i64 a0_5) := bc BK170 5
          have hfz10_0 := blk_frozen BK170.out 0
          have hfz10_1 := blk_frozen BK170.out 1
          have hfz10_2 := blk_frozen BK170.out 2
          have hfz10_3 := blk_frozen BK170.out 3
          have hfz10_4 := blk_frozen BK170.out 4
          have hfz10_5 := blk_frozen BK170.out 5
          go_wp2
          go_meet
          case rel => exact ⟨_, (true), (by first | rfl | (simp; done) | (simp [*]; done)), H', ⟨by first | omega | exact Nat.le_refl _⟩, ⟨by (with_reducible repeat (first | refine blk_drewN ?_ _ | refine blk_drew ?_ | refine blk_alloc ?_ _)); exact BK170.out⟩, ⟨by repeat (first | (with_reducible first | exact HB.out | apply below_alloc | apply pw_below_drewN | apply below_drew1 | refine below_set ?_ GE170.out) | exact HB.out)⟩⟩
        · rw [if_neg c9] at H
          have c9b0 : decide (255 < a0_1) = false := decide_eq_false c9
          clear c9
          by_cases c11 : a0_2 < 1
          · rw [if_pos c11] at H
            have c11b0 : decide (a0_2 < 1) = true := decide_eq_true c11
            clear c11
            have H' := Aside0.mk H
            clear H
            have hcz12_0 : w5.cell? ⟨gb170, 0, none⟩ = some (.string a0_0) := bc BK170 0
            have hcz12_1 : w5.cell? ⟨gb170, 1, none⟩ = some (.int .i64 a0_1) := bc BK170 1
            have hcz12_2 : w5.cell? ⟨gb170, 2, none⟩ = some (.int .i64 a0_2) := bc BK170 2
            have hcz12_3 : w5.cell? ⟨gb170, 3, none⟩ = some (.int .i64 a0_3) := bc BK170 3
            have hcz12_4 : w5.cell? ⟨gb170, 4, none⟩ = some (.int .i64 a0_4) := bc BK170 4
            have hcz12_5 : w5.cell? ⟨gb170, 5, none⟩ = some (.int .i64 a0_5) := bc BK170 5
            have hfz12_0 := blk_frozen BK170.out 0
            have hfz12_1 := blk_frozen BK170.out 1
            have hfz12_2 := blk_frozen BK170.out 2
            have hfz12_3 := blk_frozen BK170.out 3
            have hfz12_4 := blk_frozen BK170.out 4
            have hfz12_5 := blk_frozen BK170.out 5
            go_wp2
            go_meet
            case rel => exact ⟨_, (true), (by first | rfl | (simp; done) | (simp [*]; done)), H', ⟨by first | omega | exact Nat.le_refl _⟩, ⟨by (with_reducible repeat (first | refine blk_drewN ?_ _ | refine blk_drew ?_ | refine blk_alloc ?_ _)); exact BK170.out⟩, ⟨by repeat (first | (with_reducible first | exact HB.out | apply below_alloc | apply pw_below_drewN | apply below_drew1 | refine below_set ?_ GE170.out) | exact HB.out)⟩⟩
          · rw [if_neg c11] at H
            have c11b0 : decide (a0_2 < 1) = false := decide_eq_false c11
            clear c11
            by_cases c13 : a0_2 > 8
            · rw [if_pos c13] at H
              have c13b0 : decide (8 < a0_2) = true := decide_eq_true c13
              clear c13
              have H' := Aside0.mk H
              clear H
              have hcz14_0 : w5.cell? ⟨gb170, 0, none⟩ = some (.string a0_0) := bc BK170 0
              have hcz14_1 : w5.cell? ⟨gb170, 1, none⟩ = some (.int .i64 a0_1) := bc BK170 1
              have hcz14_2 : w5.cell? ⟨gb170, 2, none⟩ = some (.int .i64 a0_2) := bc BK170 2
              have hcz14_3 : w5.cell? ⟨gb170, 3, none⟩ = some (.int .i64 a0_3) := bc BK170 3
              have hcz14_4 : w5.cell? ⟨gb170, 4, none⟩ = some (.int .i64 a0_4) := bc BK170 4
              have hcz14_5 : w5.cell? ⟨gb170, 5, none⟩ = some (.int .i64 a0_5) := bc BK170 5
              have hfz14_0 := blk_frozen BK170.out 0
              have hfz14_1 := blk_frozen BK170.out 1
              have hfz14_2 := blk_frozen BK170.out 2
              have hfz14_3 := blk_frozen BK170.out 3
              have hfz14_4 := blk_frozen BK170.out 4
              have hfz14_5 := blk_frozen BK170.out 5
              go_wp2
              go_meet
              case rel => exact ⟨_, (true), (by first | rfl | (simp; done) | (simp [*]; done)), H', ⟨by first | omega | exact Nat.le_refl _⟩, ⟨by (with_reducible repeat (first | refine blk_drewN ?_ _ | refine blk_drew ?_ | refine blk_alloc ?_ _)); exact BK170.out⟩, ⟨by repeat (first | (with_reducible first | exact HB.out | apply below_alloc | apply pw_below_drewN | apply below_drew1 | refine below_set ?_ GE170.out) | exact HB.out)⟩⟩
            · rw [if_neg c13] at H
              have c13b0 : decide (8 < a0_2) = false := decide_eq_false c13
              clear c13
              by_cases c15 : a0_4 < 1
              · rw [if_pos c15] at H
                have c15b0 : decide (a0_4 < 1) = true := decide_eq_true c15
                clear c15
                have H' := Aside0.mk H
                clear H
                have hcz16_0 : w5.cell? ⟨gb170, 0, none⟩ = some (.string a0_0) := bc BK170 0
                have hcz16_1 : w5.cell? ⟨gb170, 1, none⟩ = some (.int .i64 a0_1) := bc BK170 1
                have hcz16_2 : w5.cell? ⟨gb170, 2, none⟩ = some (.int .i64 a0_2) := bc BK170 2
                have hcz16_3 : w5.cell? ⟨gb170, 3, none⟩ = some (.int .i64 a0_3) := bc BK170 3
                have hcz16_4 : w5.cell? ⟨gb170, 4, none⟩ = some (.int .i64 a0_4) := bc BK170 4
                have hcz16_5 : w5.cell? ⟨gb170, 5, none⟩ = some (.int .i64 a0_5) := bc BK170 5
                have hfz16_0 := blk_frozen BK170.out 0
                have hfz16_1 := blk_frozen BK170.out 1
                have hfz16_2 := blk_frozen BK170.out 2
                have hfz16_3 := blk_frozen BK170.out 3
                have hfz16_4 := blk_frozen BK170.out 4
                have hfz16_5 := blk_frozen BK170.out 5
                go_wp2
                go_meet
                case rel => exact ⟨_, (true), (by first | rfl | (simp; done) | (simp [*]; done)), H', ⟨by first | omega | exact Nat.le_refl _⟩, ⟨by (with_reducible repeat (first | refine blk_drewN ?_ _ | refine blk_drew ?_ | refine blk_alloc ?_ _)); exact BK170.out⟩, ⟨by repeat (first | (with_reducible first | exact HB.out | apply below_alloc | apply pw_below_drewN | apply below_drew1 | refine below_set ?_ GE170.out) | exact HB.out)⟩⟩
              · rw [if_neg c15] at H
                have c15b0 : decide (a0_4 < 1) = false := decide_eq_false c15
                clear c15
                by_cases c17 : a0_4 > 10
                · rw [if_pos c17] at H
                  have c17b0 : decide (10 < a0_4) = true := decide_eq_true c17
                  clear c17
                  have H' := Aside0.mk H
                  clear H
                  have hcz18_0 : w5.cell? ⟨gb170, 0, none⟩ = some (.string a0_0) := bc BK170 0
                  have hcz18_1 : w5.cell? ⟨gb170, 1, none⟩ = some (.int .i64 a0_1) := bc BK170 1
                  have hcz18_2 : w5.cell? ⟨gb170, 2, none⟩ = some (.int .i64 a0_2) := bc BK170 2
                  have hcz18_3 : w5.cell? ⟨gb170, 3, none⟩ = some (.int .i64 a0_3) := bc BK170 3
                  have hcz18_4 : w5.cell? ⟨gb170, 4, none⟩ = some (.int .i64 a0_4) := bc BK170 4
                  have hcz18_5 : w5.cell? ⟨gb170, 5, none⟩ = some (.int .i64 a0_5) := bc BK170 5
                  have hfz18_0 := blk_frozen BK170.out 0
                  have hfz18_1 := blk_frozen BK170.out 1
                  have hfz18_2 := blk_frozen BK170.out 2
                  have hfz18_3 := blk_frozen BK170.out 3
                  have hfz18_4 := blk_frozen BK170.out 4
                  have hfz18_5 := blk_frozen BK170.out 5
                  go_wp2
                  go_meet
                  case rel => exact ⟨_, (true), (by first | rfl | (simp; done) | (simp [*]; done)), H', ⟨by first | omega | exact Nat.le_refl _⟩, ⟨by (with_reducible repeat (first | refine blk_drewN ?_ _ | refine blk_drew ?_ | refine blk_alloc ?_ _)); exact BK170.out⟩, ⟨by repeat (first | (with_reducible first | exact HB.out | apply below_alloc | apply pw_below_drewN | apply below_drew1 | refine below_set ?_ GE170.out) | exact HB.out)⟩⟩
                · rw [if_neg c17] at H
                  have c17b0 : decide (10 < a0_4) = false := decide_eq_false c17
                  clear c17
                  by_cases c19 : a0_3 < 0
                  · rw [if_pos c19] at H
                    have c19b0 : decide (a0_3 < 0) = true := decide_eq_true c19
                    clear c19
                    have H' := Aside0.mk H
                    clear H
                    have hcz20_0 : w5.cell? ⟨gb170, 0, none⟩ = some (.string a0_0) := bc BK170 0
                    have hcz20_1 : w5.cell? ⟨gb170, 1, none⟩ = some (.int .i64 a0_1) := bc BK170 1
                    have hcz20_2 : w5.cell? ⟨gb170, 2, none⟩ = some (.int .i64 a0_2) := bc BK170 2
                    have hcz20_3 : w5.cell? ⟨gb170, 3, none⟩ = some (.int .i64 a0_3) := bc BK170 3
                    have hcz20_4 : w5.cell? ⟨gb170, 4, none⟩ = some (.int .i64 a0_4) := bc BK170 4
                    have hcz20_5 : w5.cell? ⟨gb170, 5, none⟩ = some (.int .i64 a0_5) := bc BK170 5
                    have hfz20_0 := blk_frozen BK170.out 0
                    have hfz20_1 := blk_frozen BK170.out 1
                    have hfz20_2 := blk_frozen BK170.out 2
                    have hfz20_3 := blk_frozen BK170.out 3
                    have hfz20_4 := blk_frozen BK170.out 4
                    have hfz20_5 := blk_frozen BK170.out 5
                    go_wp2
                    go_meet
                    case rel => exact ⟨_, (true), (by first | rfl | (simp; done) | (simp [*]; done)), H', ⟨by first | omega | exact Nat.le_refl _⟩, ⟨by (with_reducible repeat (first | refine blk_drewN ?_ _ | refine blk_drew ?_ | refine blk_alloc ?_ _)); exact BK170.out⟩, ⟨by repeat (first | (with_reducible first | exact HB.out | apply below_alloc | apply pw_below_drewN | apply below_drew1 | refine below_set ?_ GE170.out) | exact HB.out)⟩⟩
                  · rw [if_neg c19] at H
                    have c19b0 : decide (a0_3 < 0) = false := decide_eq_false c19
                    clear c19
                    by_cases c21 : a0_3 > a0_4
                    · rw [if_pos c21] at H
                      have c21b0 : decide (a0_4 < a0_3) = true := decide_eq_true c21
                      clear c21
                      have H' := Aside0.mk H
                      clear H
                      have hcz22_0 : w5.cell? ⟨gb170, 0, none⟩ = some (.string a0_0) := bc BK170 0
                      have hcz22_1 : w5.cell? ⟨gb170, 1, none⟩ = some (.int .i64 a0_1) := bc BK170 1
                      have hcz22_2 : w5.cell? ⟨gb170, 2, none⟩ = some (.int .i64 a0_2) := bc BK170 2
                      have hcz22_3 : w5.cell? ⟨gb170, 3, none⟩ = some (.int .i64 a0_3) := bc BK170 3
                      have hcz22_4 : w5.cell? ⟨gb170, 4, none⟩ = some (.int .i64 a0_4) := bc BK170 4
                      have hcz22_5 : w5.cell? ⟨gb170, 5, none⟩ = some (.int .i64 a0_5) := bc BK170 5
                      have hfz22_0 := blk_frozen BK170.out 0
                      have hfz22_1 := blk_frozen BK170.out 1
                      have hfz22_2 := blk_frozen BK170.out 2
                      have hfz22_3 := blk_frozen BK170.out 3
                      have hfz22_4 := blk_frozen BK170.out 4
                      have hfz22_5 := blk_frozen BK170.out 5
                      go_wp2
                      go_meet
                      case rel => exact ⟨_, (true), (by first | rfl | (simp; done) | (simp [*]; done)), H', ⟨by first | omega | exact Nat.le_refl _⟩, ⟨by (with_reducible repeat (first | refine blk_drewN ?_ _ | refine blk_drew ?_ | refine blk_alloc ?_ _)); exact BK170.out⟩, ⟨by repeat (first | (with_reducible first | exact HB.out | apply below_alloc | apply pw_below_drewN | apply below_drew1 | refine below_set ?_ GE170.out) | exact HB.out)⟩⟩
                    · rw [if_neg c21] at H
                      have c21b0 : decide (a0_4 < a0_3) = false := decide_eq_false c21
                      clear c21
                      by_cases c23 : a0_5 < 0
                      · rw [if_pos c23] at H
                        have c23b0 : decide (a0_5 < 0) = true := decide_eq_true c23
                        clear c23
                        have H' := Aside0.mk H
                        clear H
                        have hcz24_0 : w5.cell? ⟨gb170, 0, none⟩ = some (.string a0_0) := bc BK170 0
                        have hcz24_1 : w5.cell? ⟨gb170, 1, none⟩ = some (.int .i64 a0_1) := bc BK170 1
                        have hcz24_2 : w5.cell? ⟨gb170, 2, none⟩ = some (.int .i64 a0_2) := bc BK170 2
                        have hcz24_3 : w5.cell? ⟨gb170, 3, none⟩ = some (.int .i64 a0_3) := bc BK170 3
                        have hcz24_4 : w5.cell? ⟨gb170, 4, none⟩ = some (.int .i64 a0_4) := bc BK170 4
                        have hcz24_5 : w5.cell? ⟨gb170, 5, none⟩ = some (.int .i64 a0_5) := bc BK170 5
                        have hfz24_0 := blk_frozen BK170.out 0
                        have hfz24_1 := blk_frozen BK170.out 1
                        have hfz24_2 := blk_frozen BK170.out 2
                        have hfz24_3 := blk_frozen BK170.out 3
                        have hfz24_4 := blk_frozen BK170.out 4
                        have hfz24_5 := blk_frozen BK170.out 5
                        go_wp2
                        go_meet
                        case rel => exact ⟨_, (true), (by first | rfl | (simp; done) | (simp [*]; done)), H', ⟨by first | omega | exact Nat.le_refl _⟩, ⟨by (with_reducible repeat (first | refine blk_drewN ?_ _ | refine blk_drew ?_ | refine blk_alloc ?_ _)); exact BK170.out⟩, ⟨by repeat (first | (with_reducible first | exact HB.out | apply below_alloc | apply pw_below_drewN | apply below_drew1 | refine below_set ?_ GE170.out) | exact HB.out)⟩⟩
                      · rw [if_neg c23] at H
                        have c23b0 : decide (a0_5 < 0) = false := decide_eq_false c23
                        clear c23
                        have H' := Aside0.mk H
                        clear H
                        have hcz25_0 : w5.cell? ⟨gb170, 0, none⟩ = some (.string a0_0) := bc BK170 0
                        have hcz25_1 : w5.cell? ⟨gb170, 1, none⟩ = some (.int .i64 a0_1) := bc BK170 1
                        have hcz25_2 : w5.cell? ⟨gb170, 2, none⟩ = some (.int .i64 a0_2) := bc BK170 2
                        have hcz25_3 : w5.cell? ⟨gb170, 3, none⟩ = some (.int .i64 a0_3) := bc BK170 3
                        have hcz25_4 : w5.cell? ⟨gb170, 4, none⟩ = some (.int .i64 a0_4) := bc BK170 4
                        have hcz25_5 : w5.cell? ⟨gb170, 5, none⟩ = some (.int .i64 a0_5) := bc BK170 5
                        have hfz25_0 := blk_frozen BK170.out 0
                        have hfz25_1 := blk_frozen BK170.out 1
                        have hfz25_2 := blk_frozen BK170.out 2
                        have hfz25_3 := blk_frozen BK170.out 3
                        have hfz25_4 := blk_frozen BK170.out 4
                        have hfz25_5 := blk_frozen BK170.out 5
                        go_wp2
                        go_meet
                        case rel => exact ⟨_, (decide (a0_5 > 30)), (by first | rfl | (simp; done) | (simp [*]; done)), H', ⟨by first | omega | exact Nat.le_refl _⟩, ⟨by (with_reducible repeat (first | refine blk_drewN ?_ _ | refine blk_drew ?_ | refine blk_alloc ?_ _)); exact BK170.out⟩, ⟨by repeat (first | (with_reducible first | exact HB.out | apply below_alloc | apply pw_below_drewN | apply below_drew1 | refine below_set ?_ GE170.out) | exact HB.out)⟩⟩
    case rest =>
      clear HC4
      try clear c1
      try clear c2
      try clear p2
      try clear c3
      try clear c7
      try clear c7b0
      try clear c7b1
      try clear c9
      try clear c9b0
      try clear c11
      try clear c11b0
      try clear c13
      try clear c13b0
      try clear c14
      try clear c15
      try clear c15b0
      try clear c17
      try clear c17b0
      try clear c19
      try clear c19b0
      try clear c21
      try clear c21b0
      try clear c23
      try clear c23b0
      try clear hcz10_0
      try clear hcz10_1
      try clear hcz10_2
      try clear hcz10_3
      try clear hcz10_4
      try clear hcz10_5
      try clear hcz12_0
      try clear hcz12_1
      try clear hcz12_2
      try clear hcz12_3
      try clear hcz12_4
      try clear hcz12_5
      try clear hcz14_0
      try clear hcz14_1
      try clear hcz14_2
      try clear hcz14_3
      try clear hcz14_4
      try clear hcz14_5
      try clear hcz16_0
      try clear hcz16_1
      try clear hcz16_2
      try clear hcz16_3
      try clear hcz16_4
      try clear hcz16_5
      try clear hcz18_0
      try clear hcz18_1
      try clear hcz18_2
      try clear hcz18_3
      try clear hcz18_4
      try clear hcz18_5
      try clear hcz20_0
      try clear hcz20_1
      try clear hcz20_2
      try clear hcz20_3
      try clear hcz20_4
      try clear hcz20_5
      try clear hcz22_0
      try clear hcz22_1
      try clear hcz22_2
      try clear hcz22_3
      try clear hcz22_4
      try clear hcz22_5
      try clear hcz24_0
      try clear hcz24_1
      try clear hcz24_2
      try clear hcz24_3
      try clear hcz24_4
      try clear hcz24_5
      try clear hcz25_0
      try clear hcz25_1
      try clear hcz25_2
      try clear hcz25_3
      try clear hcz25_4
      try clear hcz25_5
      try clear hcz6_0
      try clear hcz6_1
      try clear hcz6_2
      try clear hcz6_3
      try clear hcz6_4
      try clear hcz6_5
      try clear hcz8_0
      try clear hcz8_1
      try clear hcz8_2
      try clear hcz8_3
      try clear hcz8_4
      try clear hcz8_5
      try clear hfz10_0
      try clear hfz10_1
      try clear hfz10_2
      try clear hfz10_3
      try clear hfz10_4
      try clear hfz10_5
      try clear hfz12_0
      try clear hfz12_1
      try clear hfz12_2
      try clear hfz12_3
      try clear hfz12_4
      try clear hfz12_5
      try clear hfz14_0
      try clear hfz14_1
      try clear hfz14_2
      try clear hfz14_3
      try clear hfz14_4
      try clear hfz14_5
      try clear hfz16_0
      try clear hfz16_1
      try clear hfz16_2
      try clear hfz16_3
      try clear hfz16_4
      try clear hfz16_5
      try clear hfz18_0
      try clear hfz18_1
      try clear hfz18_2
      try clear hfz18_3
      try clear hfz18_4
      try clear hfz18_5
      try clear hfz20_0
      try clear hfz20_1
      try clear hfz20_2
      try clear hfz20_3
      try clear hfz20_4
      try clear hfz20_5
      try clear hfz22_0
      try clear hfz22_1
      try clear hfz22_2
      try clear hfz22_3
      try clear hfz22_4
      try clear hfz22_5
      try clear hfz24_0
      try clear hfz24_1
      try clear hfz24_2
      try clear hfz24_3
      try clear hfz24_4
      try clear hfz24_5
      try clear hfz25_0
      try clear hfz25_1
      try clear hfz25_2
      try clear hfz25_3
      try clear hfz25_4
      try clear hfz25_5
      try clear hfz6_0
      try clear hfz6_1
      try clear hfz6_2
      try clear hfz6_3
      try clear hfz6_4
      try clear hfz6_5
      try clear hfz8_0
      try clear hfz8_1
      try clear hfz8_2
      try clear hfz8_3
      try clear hfz8_4
      try clear hfz8_5
      obtain ⟨kq, x56_3, rfl, HA, HJ3, BK170, HB⟩ := hcut
      cases kq with
      | zero => exact absurd HA.out (by simp [damperref2_Config.j0])
      | succ kj3 =>
        have H := HA.out
        clear HA
        simp only [damperref2_Config.j0] at H
        by_cases c26 : x56_3 = true
        · subst c26
          have H1 : (some 2) = some r := by rw [if_pos rfl] at H; exact H
          clear H
          have H := H1
          clear H1
          obtain rfl := Option.some.inj H
          go_wp2
          go_ret
          exact ⟨by first | rfl | (simp [errW_none, errW_some] <;> rfl) | (simp [*, errW_none, errW_some] <;> rfl), by repeat (first | (with_reducible first | exact HB.out | apply below_alloc | apply pw_below_drewN | apply below_drew1 | refine below_set ?_ GE170.out) | exact HB.out)⟩
        · replace c26 := Bool.eq_false_iff.mpr c26
          subst c26
          have H1 : (some 0) = some r := by rw [if_neg (show ¬ (false = true) by decide)] at H; exact H
          clear H
          have H := H1
          clear H1
          obtain rfl := Option.some.inj H
          go_wp2
          go_ret
          exact ⟨by first | rfl | (simp [errW_none, errW_some] <;> rfl) | (simp [*, errW_none, errW_some] <;> rfl), by repeat (first | (with_reducible first | exact HB.out | apply below_alloc | apply pw_below_drewN | apply below_drew1 | refine below_set ?_ GE170.out) | exact HB.out)⟩
  · replace c3 := Bool.eq_false_iff.mpr c3
    subst c3
    have H1 : (some 1) = some r := by rw [if_neg (show ¬ (false = true) by decide)] at H; exact H
    clear H
    have H := H1
    clear H1
    obtain rfl := Option.some.inj H
    go_enter Tryd.func14, Tryd.ntmps14
    go_wp2_with (first | ((with_reducible refine gate_dst (N := 1) rfl ?_); refine box_event ?hg (N := 1) ?hd (cs := #[.string a0_0, .int .i64 a0_1, .int .i64 a0_2, .int .i64 a0_3, .int .i64 a0_4, .int .i64 a0_5]) (t := 23) ?hr ?_; (case hd => rfl); (case hg => rfl); (case hr => first | (go_simp; done) | (go_simp; rfl)); intro gb170 hg w27 hbox hb; have n0_ := Aside0.mk (below_step (by repeat (first | (with_reducible first | exact HB.out | apply below_alloc | apply pw_below_drewN | apply below_drew1) | exact HB.out)) hb); have n1_ := Aside0.mk (hbox); have n2_ := Aside0.mk ((by rw [hg]; exact (below_size (by repeat (first | (with_reducible first | exact HB.out | apply below_alloc | apply pw_below_drewN | apply below_drew1) | exact HB.out))) : w.heap.size ≤ gb170)); have n3_ := Aside0.mk ((by rw [hg]; exact (below_size (by repeat (first | (with_reducible first | exact HB.out | apply below_alloc | apply pw_below_drewN | apply below_drew1) | exact HB.out))) : w.heap.size ≤ gb170)); clear HB; have HB := n0_; have BK170 := n1_; have GW170 := n2_; have GE170 := n3_; clear n0_ n1_ n2_ n3_; clear hb hbox hg; have hcz28_0 : w27.cell? ⟨gb170, 0, none⟩ = some (.string a0_0) := bc BK170 0; have hcz28_1 : w27.cell? ⟨gb170, 1, none⟩ = some (.int .i64 a0_1) := bc BK170 1; have hcz28_2 : w27.cell? ⟨gb170, 2, none⟩ = some (.int .i64 a0_2) := bc BK170 2; have hcz28_3 : w27.cell? ⟨gb170, 3, none⟩ = some (.int .i64 a0_3) := bc BK170 3; have hcz28_4 : w27.cell? ⟨gb170, 4, none⟩ = some (.int .i64 a0_4) := bc BK170 4; have hcz28_5 : w27.cell? ⟨gb170, 5, none⟩ = some (.int .i64 a0_5) := bc BK170 5; have hfz28_0 := blk_frozen BK170.out 0; have hfz28_1 := blk_frozen BK170.out 1; have hfz28_2 := blk_frozen BK170.out 2; have hfz28_3 := blk_frozen BK170.out 3; have hfz28_4 := blk_frozen BK170.out 4; have hfz28_5 := blk_frozen BK170.out 5) | ((with_reducible refine gate_callee (f := 26) rfl ?_); refine goesL_ (some 5) rfl rfl Tryd.func26 (by kernel_rfl) rfl #[.string a0_0] rfl (by (try simp only [List.map_toArray, List.map_cons, List.map_nil]); first | done | rfl | (simp only [List.length_drop, List.length_take]; rfl)) ?_; (with_reducible refine (damperref1_Name.calls k a0_0 false _ A2.out).mono ?_); rintro e w' ⟨rfl, ⟨nd, rfl⟩⟩; refine ⟨_, rfl, ?_⟩))
    go_ret
    exact ⟨by first | rfl | (simp [errW_none, errW_some] <;> rfl) | (simp [*, errW_none, errW_some] <;> rfl), by repeat (first | (with_reducible first | exact HB.out | apply below_alloc | apply pw_below_drewN | apply below_drew1 | refine below_set ?_ GE170.out) | exact HB.out)⟩

end Go.Proofs.YthdpnbfjpbiieaaDoor.Ma
