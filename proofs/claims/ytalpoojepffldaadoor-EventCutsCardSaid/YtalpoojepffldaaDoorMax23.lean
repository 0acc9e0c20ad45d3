-- Written by a program of this session (wip/tools/myprint.py), in the form of the kit's print. Not trusted: Lean checks it.
import Derived.Test.YtalpoojepffldaaDoorMax0
namespace Go.Proofs.YtalpoojepffldaaDoor.Ma
open Go.RowKit Go.Proofs.YtalpoojepffldaaDoorW.PrintWords Go.Proofs.YtalpoojepffldaaDoorW.PrintLast Go.Proofs.YtalpoojepffldaaDoorW.PrintMore
attribute [local go_sem] max2_int min2_int max_two min_two max_three min_three max_four min_four   -- for this text's walks alone
set_option linter.unusedVariables false
set_option linter.unusedSimpArgs false

/-! ### damperlaw2_Few: function 26 -/
def damperlaw2_Few.f (a0_0 : ByteArray) (a0_1 : ByteArray) (l0_2 : List (S39)) (a0_3 : Int) : Option (Bool) := if (l0_2.length : Int) ≤ 12 then (if (a0_0.size : Int) ≤ 60 then (some (decide ((a0_1.size : Int) ≤ 60))) else (some false)) else (some false)
set_option maxHeartbeats 8000000 in
set_option maxRecDepth 100000 in
theorem damperlaw2_Few.calls (a0_0 : ByteArray) (a0_1 : ByteArray) (A0_2 : Option Addr) (c0_2 : Nat) (l0_2 : List (S39)) (a0_3 : Int) (r : Bool) (w : World) (hr0_2 : Kd.C k39 w A0_2 l0_2.length l0_2) (hc0_2 : l0_2.length ≤ c0_2) (h : damperlaw2_Few.f a0_0 a0_1 l0_2 a0_3 = some r) :
    Calls Tryd.prog 26 #[.agg #[.string a0_0, .string a0_1, .slice A0_2 l0_2.length c0_2, .int .i64 a0_3]] w fun e w' => e = .returned (.bool r) ∧ Below w.heap.size w w' := by
  have hu26 := Tryd.underlying26
  have HR0_2 := Aside0.mk hr0_2
  have HC0_2 := Aside0.mk hc0_2
  clear hr0_2 hc0_2
  have HB := Aside0.mk (Below.refl w.heap.size w)
  have H : (if (l0_2.length : Int) ≤ 12 then (if (a0_0.size : Int) ≤ 60 then (some (decide ((a0_1.size : Int) ≤ 60))) else (some false)) else (some false)) = some r := h
  clear h
  by_cases c2 : (l0_2.length : Int) ≤ 12
  · rw [if_pos c2] at H
    have c2b0 : decide ((l0_2.length : Int) ≤ 12) = true := decide_eq_true c2
    have c2b1 : decide (l0_2.length ≤ 12) = true := decide_eq_true (by omega)
    clear c2
    by_cases c3 : (a0_0.size : Int) ≤ 60
    · rw [if_pos c3] at H
      have c3b0 : decide ((a0_0.size : Int) ≤ 60) = true := decide_eq_true c3
      have c3b1 : decide (a0_0.size ≤ 60) = true := decide_eq_true (by omega)
      clear c3
      obtain rfl := Option.some.inj H
      go_enter Tryd.func26, Tryd.ntmps26
      go_wp2_with (first | ((with_reducible refine gate_dst (N := 1) rfl ?_); (try (refine gate_guard (by rfl) ?_; dsimp only)); refine box_event ?hg (N := 1) ?hd (cs := #[.string a0_0, .string a0_1, .slice A0_2 l0_2.length c0_2, .int .i64 a0_3]) (t := 26) ?hr ?_; (case hd => rfl); (case hg => rfl); (case hr => first | (go_simp; done) | (go_simp; rfl)); intro gb204 hg w4 hbox hb; have n0_ := Aside0.mk (below_step (by repeat (first | (with_reducible first | exact HB.out | apply below_alloc | apply pw_below_drewN | apply below_drew1) | exact HB.out)) hb); have n1_ := Aside0.mk (hbox); have n2_ := Aside0.mk ((by rw [hg]; exact (below_size (by repeat (first | (with_reducible first | exact HB.out | apply below_alloc | apply pw_below_drewN | apply below_drew1) | exact HB.out))) : w.heap.size ≤ gb204)); have n3_ := Aside0.mk ((by rw [hg]; exact (below_size (by repeat (first | (with_reducible first | exact HB.out | apply below_alloc | apply pw_below_drewN | apply below_drew1) | exact HB.out))) : w.heap.size ≤ gb204)); clear HB; have HB := n0_; have BK204 := n1_; have GW204 := n2_; have GE204 := n3_; clear n0_ n1_ n2_ n3_; clear hb hbox hg; have hcz5_0 : w4.cell? ⟨gb204, 0, none⟩ = some (.string a0_0) := bc BK204 0; have hcz5_1 : w4.cell? ⟨gb204, 1, none⟩ = some (.string a0_1) := bc BK204 1; have hcz5_2 : w4.cell? ⟨gb204, 2, none⟩ = some (.slice A0_2 l0_2.length c0_2) := bc BK204 2; have hcz5_3 : w4.cell? ⟨gb204, 3, none⟩ = some (.int .i64 a0_3) := bc BK204 3; have hfz5_0 := blk_frozen BK204.out 0; have hfz5_1 := blk_frozen BK204.out 1; have hfz5_2 := blk_frozen BK204.out 2; have hfz5_3 := blk_frozen BK204.out 3))
      go_ret
      exact ⟨by first | rfl | (simp [errW_none, errW_some] <;> rfl) | (simp [*, errW_none, errW_some] <;> rfl), by repeat (first | (with_reducible first | exact HB.out | apply below_alloc | apply pw_below_drewN | apply below_drew1 | refine below_set ?_ GE204.out) | exact HB.out)⟩
    · rw [if_neg c3] at H
      have c3b0 : decide ((a0_0.size : Int) ≤ 60) = false := decide_eq_false c3
      have c3b1 : decide (a0_0.size ≤ 60) = false := decide_eq_false (by omega)
      clear c3
      obtain rfl := Option.some.inj H
      go_enter Tryd.func26, Tryd.ntmps26
      go_wp2_with (first | ((with_reducible refine gate_dst (N := 1) rfl ?_); (try (refine gate_guard (by rfl) ?_; dsimp only)); refine box_event ?hg (N := 1) ?hd (cs := #[.string a0_0, .string a0_1, .slice A0_2 l0_2.length c0_2, .int .i64 a0_3]) (t := 26) ?hr ?_; (case hd => rfl); (case hg => rfl); (case hr => first | (go_simp; done) | (go_simp; rfl)); intro gb204 hg w6 hbox hb; have n0_ := Aside0.mk (below_step (by repeat (first | (with_reducible first | exact HB.out | apply below_alloc | apply pw_below_drewN | apply below_drew1) | exact HB.out)) hb); have n1_ := Aside0.mk (hbox); have n2_ := Aside0.mk ((by rw [hg]; exact (below_size (by repeat (first | (with_reducible first | exact HB.out | apply below_alloc | apply pw_below_drewN | apply below_drew1) | exact HB.out))) : w.heap.size ≤ gb204)); have n3_ := Aside0.mk ((by rw [hg]; exact (below_size (by repeat (first | (with_reducible first | exact HB.out | apply below_alloc | apply pw_below_drewN | apply below_drew1) | exact HB.out))) : w.heap.size ≤ gb204)); clear HB; have HB := n0_; have BK204 := n1_; have GW204 := n2_; have GE204 := n3_; clear n0_ n1_ n2_ n3_; clear hb hbox hg; have hcz7_0 : w6.cell? ⟨gb204, 0, none⟩ = some (.string a0_0) := bc BK204 0; have hcz7_1 : w6.cell? ⟨gb204, 1, none⟩ = some (.string a0_1) := bc BK204 1; have hcz7_2 : w6.cell? ⟨gb204, 2, none⟩ = some (.slice A0_2 l0_2.length c0_2) := bc BK204 2; have hcz7_3 : w6.cell? ⟨gb204, 3, none⟩ = some (.int .i64 a0_3) := bc BK204 3; have hfz7_0 := blk_frozen BK204.out 0; have hfz7_1 := blk_frozen BK204.out 1; have hfz7_2 := blk_frozen BK204.out 2; have hfz7_3 := blk_frozen BK204.out 3))
      go_ret
      exact ⟨by first | rfl | (simp [errW_none, errW_some] <;> rfl) | (simp [*, errW_none, errW_some] <;> rfl), by repeat (first | (with_reducible first | exact HB.out | apply below_alloc | apply pw_below_drewN | apply below_drew1 | refine below_set ?_ GE204.out) | exact HB.out)⟩
  · rw [if_neg c2] at H
    have c2b0 : decide ((l0_2.length : Int) ≤ 12) = false := decide_eq_false c2
    have c2b1 : decide (l0_2.length ≤ 12) = false := decide_eq_false (by omega)
    clear c2
    obtain rfl := Option.some.inj H
    go_enter Tryd.func26, Tryd.ntmps26
    go_wp2_with (first | ((with_reducible refine gate_dst (N := 1) rfl ?_); (try (refine gate_guard (by rfl) ?_; dsimp only)); refine box_event ?hg (N := 1) ?hd (cs := #[.string a0_0, .string a0_1, .slice A0_2 l0_2.length c0_2, .int .i64 a0_3]) (t := 26) ?hr ?_; (case hd => rfl); (case hg => rfl); (case hr => first | (go_simp; done) | (go_simp; rfl)); intro gb204 hg w8 hbox hb; have n0_ := Aside0.mk (below_step (by repeat (first | (with_reducible first | exact HB.out | apply below_alloc | apply pw_below_drewN | apply below_drew1) | exact HB.out)) hb); have n1_ := Aside0.mk (hbox); have n2_ := Aside0.mk ((by rw [hg]; exact (below_size (by repeat (first | (with_reducible first | exact HB.out | apply below_alloc | apply pw_below_drewN | apply below_drew1) | exact HB.out))) : w.heap.size ≤ gb204)); have n3_ := Aside0.mk ((by rw [hg]; exact (below_size (by repeat (first | (with_reducible first | exact HB.out | apply below_alloc | apply pw_below_drewN | apply below_drew1) | exact HB.out))) : w.heap.size ≤ gb204)); clear HB; have HB := n0_; have BK204 := n1_; have GW204 := n2_; have GE204 := n3_; clear n0_ n1_ n2_ n3_; clear hb hbox hg; have hcz9_0 : w8.cell? ⟨gb204, 0, none⟩ = some (.string a0_0) := bc BK204 0; have hcz9_1 : w8.cell? ⟨gb204, 1, none⟩ = some (.string a0_1) := bc BK204 1; have hcz9_2 : w8.cell? ⟨gb204, 2, none⟩ = some (.slice A0_2 l0_2.length c0_2) := bc BK204 2; have hcz9_3 : w8.cell? ⟨gb204, 3, none⟩ = some (.int .i64 a0_3) := bc BK204 3; have hfz9_0 := blk_frozen BK204.out 0; have hfz9_1 := blk_frozen BK204.out 1; have hfz9_2 := blk_frozen BK204.out 2; have hfz9_3 := blk_frozen BK204.out 3))
    go_ret
    exact ⟨by first | rfl | (simp [errW_none, errW_some] <;> rfl) | (simp [*, errW_none, errW_some] <;> rfl), by repeat (first | (with_reducible first | exact HB.out | apply below_alloc | apply pw_below_drewN | apply below_drew1 | refine below_set ?_ GE204.out) | exact HB.out)⟩

/-! ### damperlaw3_Few: function 13 -/
def damperlaw3_Few.f (a0_0 : Int) (a0_1 : ByteArray) (a0_2 : ByteArray) (a0_3 : Int) (a0_4 : Int) (a0_5 : ByteArray) (a0_6 : Int) (a0_7 : Int) (a0_8 : Int) (a0_9 : Int) (a0_10 : Int) (a0_11 : ByteArray) (a0_12 : ByteArray) (l0_13 : List (S39)) (a0_14 : Int) : Option (Bool) := if (a0_1.size : Int) ≤ 300 then (if (a0_2.size : Int) ≤ 300 then (if (a0_5.size : Int) ≤ 300 then ((damperlaw2_Few.f a0_11 a0_12 l0_13 a0_14).bind fun t206 => (some t206)) else (some false)) else (some false)) else (some false)
set_option maxHeartbeats 8000000 in
set_option maxRecDepth 100000 in
theorem damperlaw3_Few.calls (a0_0 : Int) (a0_1 : ByteArray) (a0_2 : ByteArray) (a0_3 : Int) (a0_4 : Int) (a0_5 : ByteArray) (a0_6 : Int) (a0_7 : Int) (a0_8 : Int) (a0_9 : Int) (a0_10 : Int) (a0_11 : ByteArray) (a0_12 : ByteArray) (A0_13 : Option Addr) (c0_13 : Nat) (l0_13 : List (S39)) (a0_14 : Int) (r : Bool) (w : World) (hr0_13 : Kd.C k39 w A0_13 l0_13.length l0_13) (hc0_13 : l0_13.length ≤ c0_13) (h : damperlaw3_Few.f a0_0 a0_1 a0_2 a0_3 a0_4 a0_5 a0_6 a0_7 a0_8 a0_9 a0_10 a0_11 a0_12 l0_13 a0_14 = some r) :
    Calls Tryd.prog 13 #[.agg #[.int .i64 a0_0, .string a0_1, .string a0_2, .int .i64 a0_3, .int .i64 a0_4, .string a0_5, .int .i64 a0_6, .int .i64 a0_7, .int .i64 a0_8, .int .i64 a0_9, .int .i64 a0_10, .string a0_11, .string a0_12, .slice A0_13 l0_13.length c0_13, .int .i64 a0_14]] w fun e w' => e = .returned (.bool r) ∧ Below w.heap.size w w' := by
  have hu28 := Tryd.underlying28
  have hu26 := Tryd.underlying26
  have HR0_13 := Aside0.mk hr0_13
  have HC0_13 := Aside0.mk hc0_13
  clear hr0_13 hc0_13
  have HB := Aside0.mk (Below.refl w.heap.size w)
  have H : (if (a0_1.size : Int) ≤ 300 then (if (a0_2.size : Int) ≤ 300 then (if (a0_5.size : Int) ≤ 300 then ((damperlaw2_Few.f a0_11 a0_12 l0_13 a0_14).bind fun t206 => (some t206)) else (some false)) else (some false)) else (some false)) = some r := h
  clear h
  by_cases c2 : (a0_1.size : Int) ≤ 300
  · rw [if_pos c2] at H
    have c2b0 : decide ((a0_1.size : Int) ≤ 300) = true := decide_eq_true c2
    have c2b1 : decide (a0_1.size ≤ 300) = true := decide_eq_true (by omega)
    clear c2
    by_cases c3 : (a0_2.size : Int) ≤ 300
    · rw [if_pos c3] at H
      have c3b0 : decide ((a0_2.size : Int) ≤ 300) = true := decide_eq_true c3
      have c3b1 : decide (a0_2.size ≤ 300) = true := decide_eq_true (by omega)
      clear c3
      by_cases c4 : (a0_5.size : Int) ≤ 300
      · rw [if_pos c4] at H
        have c4b0 : decide ((a0_5.size : Int) ≤ 300) = true := decide_eq_true c4
        have c4b1 : decide (a0_5.size ≤ 300) = true := decide_eq_true (by omega)
        clear c4
        replace H := Option.bind_eq_some_iff.mp H
        obtain ⟨t206, A50, H⟩ := H
        replace H : (some t206) = some r := H
        have A5 := Aside0.mk A50
        clear A50
        obtain rfl := Option.some.inj H
        go_enter Tryd.func13, Tryd.ntmps13
        go_wp2_with (first | ((with_reducible refine gate_dst (N := 1) rfl ?_); (try (refine gate_guard (by rfl) ?_; dsimp only)); refine box_event ?hg (N := 1) ?hd (cs := #[.int .i64 a0_0, .string a0_1, .string a0_2, .int .i64 a0_3, .int .i64 a0_4, .string a0_5, .int .i64 a0_6, .int .i64 a0_7, .int .i64 a0_8, .int .i64 a0_9, .int .i64 a0_10, .string a0_11, .string a0_12, .slice A0_13 l0_13.length c0_13, .int .i64 a0_14]) (t := 28) ?hr ?_; (case hd => rfl); (case hg => rfl); (case hr => first | (go_simp; done) | (go_simp; rfl)); intro gb205 hg w6 hbox hb; have n0_ := Aside0.mk (below_step (by repeat (first | (with_reducible first | exact HB.out | apply below_alloc | apply pw_below_drewN | apply below_drew1) | exact HB.out)) hb); have n1_ := Aside0.mk (hbox); have n2_ := Aside0.mk ((by rw [hg]; exact (below_size (by repeat (first | (with_reducible first | exact HB.out | apply below_alloc | apply pw_below_drewN | apply below_drew1) | exact HB.out))) : w.heap.size ≤ gb205)); have n3_ := Aside0.mk ((by rw [hg]; exact (below_size (by repeat (first | (with_reducible first | exact HB.out | apply below_alloc | apply pw_below_drewN | apply below_drew1) | exact HB.out))) : w.heap.size ≤ gb205)); clear HB; have HB := n0_; have BK205 := n1_; have GW205 := n2_; have GE205 := n3_; clear n0_ n1_ n2_ n3_; clear hb hbox hg; have hcz7_0 : w6.cell? ⟨gb205, 0, none⟩ = some (.int .i64 a0_0) := bc BK205 0; have hcz7_1 : w6.cell? ⟨gb205, 1, none⟩ = some (.string a0_1) := bc BK205 1; have hcz7_2 : w6.cell? ⟨gb205, 2, none⟩ = some (.string a0_2) := bc BK205 2; have hcz7_3 : w6.cell? ⟨gb205, 3, none⟩ = some (.int .i64 a0_3) := bc BK205 3; have hcz7_4 : w6.cell? ⟨gb205, 4, none⟩ = some (.int .i64 a0_4) := bc BK205 4; have hcz7_5 : w6.cell? ⟨gb205, 5, none⟩ = some (.string a0_5) := bc BK205 5; have hcz7_6 : w6.cell? ⟨gb205, 6, none⟩ = some (.int .i64 a0_6) := bc BK205 6; have hcz7_7 : w6.cell? ⟨gb205, 7, none⟩ = some (.int .i64 a0_7) := bc BK205 7; have hcz7_8 : w6.cell? ⟨gb205, 8, none⟩ = some (.int .i64 a0_8) := bc BK205 8; have hcz7_9 : w6.cell? ⟨gb205, 9, none⟩ = some (.int .i64 a0_9) := bc BK205 9; have hcz7_10 : w6.cell? ⟨gb205, 10, none⟩ = some (.int .i64 a0_10) := bc BK205 10; have hcz7_11 : w6.cell? ⟨gb205, 11, none⟩ = some (.string a0_11) := bc BK205 11; have hcz7_12 : w6.cell? ⟨gb205, 12, none⟩ = some (.string a0_12) := bc BK205 12; have hcz7_13 : w6.cell? ⟨gb205, 13, none⟩ = some (.slice A0_13 l0_13.length c0_13) := bc BK205 13; have hcz7_14 : w6.cell? ⟨gb205, 14, none⟩ = some (.int .i64 a0_14) := bc BK205 14; have hfz7_0 := blk_frozen BK205.out 0; have hfz7_1 := blk_frozen BK205.out 1; have hfz7_2 := blk_frozen BK205.out 2; have hfz7_3 := blk_frozen BK205.out 3; have hfz7_4 := blk_frozen BK205.out 4; have hfz7_5 := blk_frozen BK205.out 5; have hfz7_6 := blk_frozen BK205.out 6; have hfz7_7 := blk_frozen BK205.out 7; have hfz7_8 := blk_frozen BK205.out 8; have hfz7_9 := blk_frozen BK205.out 9; have hfz7_10 := blk_frozen BK205.out 10; have hfz7_11 := blk_frozen BK205.out 11; have hfz7_12 := blk_frozen BK205.out 12; have hfz7_13 := blk_frozen BK205.out 13; have hfz7_14 := blk_frozen BK205.out 14) | (go_at_call 26; (with_reducible refine (damperlaw2_Few.calls a0_11 a0_12 _ _ l0_13 a0_14 t206 _ ?side1 ?side2 A5.out).mono ?_); (case side1 => repeat (first | exact (Kd.C_below HR0_13.out HB.out) | (with_reducible refine Kd.C_alloc ?_ _) | (with_reducible refine Kd.C_drewN ?_ _) | (with_reducible refine Kd.C_drew ?_))); (case side2 => exact HC0_13.out); rintro e w8 ⟨rfl, hb⟩; have n0_ := Aside0.mk (blk_below (g := gb205) (pk BK205) hb); have n1_ := Aside0.mk (below_step (by repeat (first | (with_reducible first | exact HB.out | apply below_alloc | apply pw_below_drewN | apply below_drew1 | refine below_set ?_ GE205.out) | exact HB.out)) hb); clear BK205; clear HB; have BK205 := n0_; have HB := n1_; clear n0_ n1_; (try clear hb); (try clear hb2); (try clear hk); (try clear hi)))
        go_ret
        exact ⟨by first | rfl | (simp [errW_none, errW_some] <;> rfl) | (simp [*, errW_none, errW_some] <;> rfl), by repeat (first | (with_reducible first | exact HB.out | apply below_alloc | apply pw_below_drewN | apply below_drew1 | refine below_set ?_ GE205.out) | exact HB.out)⟩
      · rw [if_neg c4] at H
        have c4b0 : decide ((a0_5.size : Int) ≤ 300) = false := decide_eq_false c4
        have c4b1 : decide (a0_5.size ≤ 300) = false := decide_eq_false (by omega)
        clear c4
        obtain rfl := Option.some.inj H
        go_enter Tryd.func13, Tryd.ntmps13
        go_wp2_with (first | ((with_reducible refine gate_dst (N := 1) rfl ?_); (try (refine gate_guard (by rfl) ?_; dsimp only)); refine box_event ?hg (N := 1) ?hd (cs := #[.int .i64 a0_0, .string a0_1, .string a0_2, .int .i64 a0_3, .int .i64 a0_4, .string a0_5, .int .i64 a0_6, .int .i64 a0_7, .int .i64 a0_8, .int .i64 a0_9, .int .i64 a0_10, .string a0_11, .string a0_12, .slice A0_13 l0_13.length c0_13, .int .i64 a0_14]) (t := 28) ?hr ?_; (case hd => rfl); (case hg => rfl); (case hr => first | (go_simp; done) | (go_simp; rfl)); intro gb205 hg w9 hbox hb; have n0_ := Aside0.mk (below_step (by repeat (first | (with_reducible first | exact HB.out | apply below_alloc | apply pw_below_drewN | apply below_drew1) | exact HB.out)) hb); have n1_ := Aside0.mk (hbox); have n2_ := Aside0.mk ((by rw [hg]; exact (below_size (by repeat (first | (with_reducible first | exact HB.out | apply below_alloc | apply pw_below_drewN | apply below_drew1) | exact HB.out))) : w.heap.size ≤ gb205)); have n3_ := Aside0.mk ((by rw [hg]; exact (below_size (by repeat (first | (with_reducible first | exact HB.out | apply below_alloc | apply pw_below_drewN | apply below_drew1) | exact HB.out))) : w.heap.size ≤ gb205)); clear HB; have HB := n0_; have BK205 := n1_; have GW205 := n2_; have GE205 := n3_; clear n0_ n1_ n2_ n3_; clear hb hbox hg; have hcz10_0 : w9.cell? ⟨gb205, 0, none⟩ = some (.int .i64 a0_0) := bc BK205 0; have hcz10_1 : w9.cell? ⟨gb205, 1, none⟩ = some (.string a0_1) := bc BK205 1; have hcz10_2 : w9.cell? ⟨gb205, 2, none⟩ = some (.string a0_2) := bc BK205 2; have hcz10_3 : w9.cell? ⟨gb205, 3, none⟩ = some (.int .i64 a0_3) := bc BK205 3; have hcz10_4 : w9.cell? ⟨gb205, 4, none⟩ = some (.int .i64 a0_4) := bc BK205 4; have hcz10_5 : w9.cell? ⟨gb205, 5, none⟩ = some (.string a0_5) := bc BK205 5; have hcz10_6 : w9.cell? ⟨gb205, 6, none⟩ = some (.int .i64 a0_6) := bc BK205 6; have hcz10_7 : w9.cell? ⟨gb205, 7, none⟩ = some (.int .i64 a0_7) := bc BK205 7; have hcz10_8 : w9.cell? ⟨gb205, 8, none⟩ = some (.int .i64 a0_8) := bc BK205 8; have hcz10_9 : w9.cell? ⟨gb205, 9, none⟩ = some (.int .i64 a0_9) := bc BK205 9; have hcz10_10 : w9.cell? ⟨gb205, 10, none⟩ = some (.int .i64 a0_10) := bc BK205 10; have hcz10_11 : w9.cell? ⟨gb205, 11, none⟩ = some (.string a0_11) := bc BK205 11; have hcz10_12 : w9.cell? ⟨gb205, 12, none⟩ = some (.string a0_12) := bc BK205 12; have hcz10_13 : w9.cell? ⟨gb205, 13, none⟩ = some (.slice A0_13 l0_13.length c0_13) := bc BK205 13; have hcz10_14 : w9.cell? ⟨gb205, 14, none⟩ = some (.int .i64 a0_14) := bc BK205 14; have hfz10_0 := blk_frozen BK205.out 0; have hfz10_1 := blk_frozen BK205.out 1; have hfz10_2 := blk_frozen BK205.out 2; have hfz10_3 := blk_frozen BK205.out 3; have hfz10_4 := blk_frozen BK205.out 4; have hfz10_5 := blk_frozen BK205.out 5; have hfz10_6 := blk_frozen BK205.out 6; have hfz10_7 := blk_frozen BK205.out 7; have hfz10_8 := blk_frozen BK205.out 8; have hfz10_9 := blk_frozen BK205.out 9; have hfz10_10 := blk_frozen BK205.out 10; have hfz10_11 := blk_frozen BK205.out 11; have hfz10_12 := blk_frozen BK205.out 12; have hfz10_13 := blk_frozen BK205.out 13; have hfz10_14 := blk_frozen BK205.out 14))
        go_ret
        exact ⟨by first | rfl | (simp [errW_none, errW_some] <;> rfl) | (simp [*, errW_none, errW_some] <;> rfl), by repeat (first | (with_reducible first | exact HB.out | apply below_alloc | apply pw_below_drewN | apply below_drew1 | refine below_set ?_ GE205.out) | exact HB.out)⟩
    · rw [if_neg c3] at H
      have c3b0 : decide ((a0_2.size : Int) ≤ 300) = false := decide_eq_false c3
      have c3b1 : decide (a0_2.size ≤ 300) = false := decide_eq_false (by omega)
      clear c3
      obtain rfl := Option.some.inj H
      go_enter Tryd.func13, Tryd.ntmps13
      go_wp2_with (first | ((with_reducible refine gate_dst (N := 1) rfl ?_); (try (refine gate_guard (by rfl) ?_; dsimp only)); refine box_event ?hg (N := 1) ?hd (cs := #[.int .i64 a0_0, .string a0_1, .string a0_2, .int .i64 a0_3, .int .i64 a0_4, .string a0_5, .int .i64 a0_6, .int .i64 a0_7, .int .i64 a0_8, .int .i64 a0_9, .int .i64 a0_10, .string a0_11, .string a0_12, .slice A0_13 l0_13.length c0_13, .int .i64 a0_14]) (t := 28) ?hr ?_; (case hd => rfl); (case hg => rfl); (case hr => first | (go_simp; done) | (go_simp; rfl)); intro gb205 hg w11 hbox hb; have n0_ := Aside0.mk (below_step (by repeat (first | (with_reducible first | exact HB.out | apply below_alloc | apply pw_below_drewN | apply below_drew1) | exact HB.out)) hb); have n1_ := Aside0.mk (hbox); have n2_ := Aside0.mk ((by rw [hg]; exact (below_size (by repeat (first | (with_reducible first | exact HB.out | apply below_alloc | apply pw_below_drewN | apply below_drew1) | exact HB.out))) : w.heap.size ≤ gb205)); have n3_ := Aside0.mk ((by rw [hg]; exact (below_size (by repeat (first | (with_reducible first | exact HB.out | apply below_alloc | apply pw_below_drewN | apply below_drew1) | exact HB.out))) : w.heap.size ≤ gb205)); clear HB; have HB := n0_; have BK205 := n1_; have GW205 := n2_; have GE205 := n3_; clear n0_ n1_ n2_ n3_; clear hb hbox hg; have hcz12_0 : w11.cell? ⟨gb205, 0, none⟩ = some (.int .i64 a0_0) := bc BK205 0; have hcz12_1 : w11.cell? ⟨gb205, 1, none⟩ = some (.string a0_1) := bc BK205 1; have hcz12_2 : w11.cell? ⟨gb205, 2, none⟩ = some (.string a0_2) := bc BK205 2; have hcz12_3 : w11.cell? ⟨gb205, 3, none⟩ = some (.int .i64 a0_3) := bc BK205 3; have hcz12_4 : w11.cell? ⟨gb205, 4, none⟩ = some (.int .i64 a0_4) := bc BK205 4; have hcz12_5 : w11.cell? ⟨gb205, 5, none⟩ = some (.string a0_5) := bc BK205 5; have hcz12_6 : w11.cell? ⟨gb205, 6, none⟩ = some (.int .i64 a0_6) := bc BK205 6; have hcz12_7 : w11.cell? ⟨gb205, 7, none⟩ = some (.int .i64 a0_7) := bc BK205 7; have hcz12_8 : w11.cell? ⟨gb205, 8, none⟩ = some (.int .i64 a0_8) := bc BK205 8; have hcz12_9 : w11.cell? ⟨gb205, 9, none⟩ = some (.int .i64 a0_9) := bc BK205 9; have hcz12_10 : w11.cell? ⟨gb205, 10, none⟩ = some (.int .i64 a0_10) := bc BK205 10; have hcz12_11 : w11.cell? ⟨gb205, 11, none⟩ = some (.string a0_11) := bc BK205 11; have hcz12_12 : w11.cell? ⟨gb205, 12, none⟩ = some (.string a0_12) := bc BK205 12; have hcz12_13 : w11.cell? ⟨gb205, 13, none⟩ = some (.slice A0_13 l0_13.length c0_13) := bc BK205 13; have hcz12_14 : w11.cell? ⟨gb205, 14, none⟩ = some (.int .i64 a0_14) := bc BK205 14; have hfz12_0 := blk_frozen BK205.out 0; have hfz12_1 := blk_frozen BK205.out 1; have hfz12_2 := blk_frozen BK205.out 2; have hfz12_3 := blk_frozen BK205.out 3; have hfz12_4 := blk_frozen BK205.out 4; have hfz12_5 := blk_frozen BK205.out 5; have hfz12_6 := blk_frozen BK205.out 6; have hfz12_7 := blk_frozen BK205.out 7; have hfz12_8 := blk_frozen BK205.out 8; have hfz12_9 := blk_frozen BK205.out 9; have hfz12_10 := blk_frozen BK205.out 10; have hfz12_11 := blk_frozen BK205.out 11; have hfz12_12 := blk_frozen BK205.out 12; have hfz12_13 := blk_frozen BK205.out 13; have hfz12_14 := blk_frozen BK205.out 14))
      go_ret
      exact ⟨by first | rfl | (simp [errW_none, errW_some] <;> rfl) | (simp [*, errW_none, errW_some] <;> rfl), by repeat (first | (with_reducible first | exact HB.out | apply below_alloc | apply pw_below_drewN | apply below_drew1 | refine below_set ?_ GE205.out) | exact HB.out)⟩
  · rw [if_neg c2] at H
    have c2b0 : decide ((a0_1.size : Int) ≤ 300) = false := decide_eq_false c2
    have c2b1 : decide (a0_1.size ≤ 300) = false := decide_eq_false (by omega)
    clear c2
    obtain rfl := Option.some.inj H
    go_enter Tryd.func13, Tryd.ntmps13
    go_wp2_with (first | ((with_reducible refine gate_dst (N := 1) rfl ?_); (try (refine gate_guard (by rfl) ?_; dsimp only)); refine box_event ?hg (N := 1) ?hd (cs := #[.int .i64 a0_0, .string a0_1, .string a0_2, .int .i64 a0_3, .int .i64 a0_4, .string a0_5, .int .i64 a0_6, .int .i64 a0_7, .int .i64 a0_8, .int .i64 a0_9, .int .i64 a0_10, .string a0_11, .string a0_12, .slice A0_13 l0_13.length c0_13, .int .i64 a0_14]) (t := 28) ?hr ?_; (case hd => rfl); (case hg => rfl); (case hr => first | (go_simp; done) | (go_simp; rfl)); intro gb205 hg w13 hbox hb; have n0_ := Aside0.mk (below_step (by repeat (first | (with_reducible first | exact HB.out | apply below_alloc | apply pw_below_drewN | apply below_drew1) | exact HB.out)) hb); have n1_ := Aside0.mk (hbox); have n2_ := Aside0.mk ((by rw [hg]; exact (below_size (by repeat (first | (with_reducible first | exact HB.out | apply below_alloc | apply pw_below_drewN | apply below_drew1) | exact HB.out))) : w.heap.size ≤ gb205)); have n3_ := Aside0.mk ((by rw [hg]; exact (below_size (by repeat (first | (with_reducible first | exact HB.out | apply below_alloc | apply pw_below_drewN | apply below_drew1) | exact HB.out))) : w.heap.size ≤ gb205)); clear HB; have HB := n0_; have BK205 := n1_; have GW205 := n2_; have GE205 := n3_; clear n0_ n1_ n2_ n3_; clear hb hbox hg; have hcz14_0 : w13.cell? ⟨gb205, 0, none⟩ = some (.int .i64 a0_0) := bc BK205 0; have hcz14_1 : w13.cell? ⟨gb205, 1, none⟩ = some (.string a0_1) := bc BK205 1; have hcz14_2 : w13.cell? ⟨gb205, 2, none⟩ = some (.string a0_2) := bc BK205 2; have hcz14_3 : w13.cell? ⟨gb205, 3, none⟩ = some (.int .i64 a0_3) := bc BK205 3; have hcz14_4 : w13.cell? ⟨gb205, 4, none⟩ = some (.int .i64 a0_4) := bc BK205 4; have hcz14_5 : w13.cell? ⟨gb205, 5, none⟩ = some (.string a0_5) := bc BK205 5; have hcz14_6 : w13.cell? ⟨gb205, 6, none⟩ = some (.int .i64 a0_6) := bc BK205 6; have hcz14_7 : w13.cell? ⟨gb205, 7, none⟩ = some (.int .i64 a0_7) := bc BK205 7; have hcz14_8 : w13.cell? ⟨gb205, 8, none⟩ = some (.int .i64 a0_8) := bc BK205 8; have hcz14_9 : w13.cell? ⟨gb205, 9, none⟩ = some (.int .i64 a0_9) := bc BK205 9; have hcz14_10 : w13.cell? ⟨gb205, 10, none⟩ = some (.int .i64 a0_10) := bc BK205 10; have hcz14_11 : w13.cell? ⟨gb205, 11, none⟩ = some (.string a0_11) := bc BK205 11; have hcz14_12 : w13.cell? ⟨gb205, 12, none⟩ = some (.string a0_12) := bc BK205 12; have hcz14_13 : w13.cell? ⟨gb205, 13, none⟩ = some (.slice A0_13 l0_13.length c0_13) := bc BK205 13; have hcz14_14 : w13.cell? ⟨gb205, 14, none⟩ = some (.int .i64 a0_14) := bc BK205 14; have hfz14_0 := blk_frozen BK205.out 0; have hfz14_1 := blk_frozen BK205.out 1; have hfz14_2 := blk_frozen BK205.out 2; have hfz14_3 := blk_frozen BK205.out 3; have hfz14_4 := blk_frozen BK205.out 4; have hfz14_5 := blk_frozen BK205.out 5; have hfz14_6 := blk_frozen BK205.out 6; have hfz14_7 := blk_frozen BK205.out 7; have hfz14_8 := blk_frozen BK205.out 8; have hfz14_9 := blk_frozen BK205.out 9; have hfz14_10 := blk_frozen BK205.out 10; have hfz14_11 := blk_frozen BK205.out 11; have hfz14_12 := blk_frozen BK205.out 12; have hfz14_13 := blk_frozen BK205.out 13; have hfz14_14 := blk_frozen BK205.out 14))
    go_ret
    exact ⟨by first | rfl | (simp [errW_none, errW_some] <;> rfl) | (simp [*, errW_none, errW_some] <;> rfl), by repeat (first | (with_reducible first | exact HB.out | apply below_alloc | apply pw_below_drewN | apply below_drew1 | refine below_set ?_ GE205.out) | exact HB.out)⟩

/-! ### damperlaw3_within: function 17 -/
def damperlaw3_within.f (a0 : Int) (a1 : Int) : Option (Int) := if a1 = 0 then (none) else some (wi a0 a1)
set_option maxHeartbeats 8000000 in
set_option maxRecDepth 100000 in
theorem damperlaw3_within.same (a0 : Int) (a1 : Int) {r : Int} (hr : wi a0 a1 = r) (c3 : a1 ≠ 0) (w : World) :
    Calls Tryd.prog 17 #[.int .i64 a0, .int .i64 a1] w fun e w' => e = .returned (.int .i64 r) ∧ w' = w := by
  subst hr
  have c3b0 : (a1 == 0) = false := beq_eq_false_iff_ne.mpr c3
  have c3b1 : (a1 != 0) = true := bne_iff_ne.mpr c3
  by_cases c4 : (Int.tmod a0 a1) < 0
  · have hw : wi a0 a1 = wrap64 (Int.tmod a0 a1 + a1) := by unfold wi; rw [if_pos c4]
    rw [hw]; clear hw
    have c4b0 : decide ((Int.tmod a0 a1) < 0) = true := decide_eq_true c4
    clear c4
    go_enter Tryd.func17, Tryd.ntmps17
    go_wp2
    go_ret
    exact ⟨by first | rfl | (simp; done) | (simp [*]; done), rfl⟩
  · have hw : wi a0 a1 = Int.tmod a0 a1 := by unfold wi; rw [if_neg c4]
    rw [hw]; clear hw
    have c4b0 : decide ((Int.tmod a0 a1) < 0) = false := decide_eq_false c4
    clear c4
    go_enter Tryd.func17, Tryd.ntmps17
    go_wp2
    go_ret
    exact ⟨by first | rfl | (simp; done) | (simp [*]; done), rfl⟩
theorem damperlaw3_within.keep (a0 : Int) (a1 : Int) {r : Int} (hr : wi a0 a1 = r) (c3 : a1 ≠ 0) (w : World) :
    Calls Tryd.prog 17 #[.int .i64 a0, .int .i64 a1] w fun e w' => e = .returned (.int .i64 r) ∧ w = w' :=
  (damperlaw3_within.same a0 a1 hr c3 w).mono fun _ _ h => ⟨h.1, h.2.symm⟩
theorem damperlaw3_within.calls (a0 : Int) (a1 : Int) (r : Int) (w : World) (h : damperlaw3_within.f a0 a1 = some r) :
    Calls Tryd.prog 17 #[.int .i64 a0, .int .i64 a1] w fun e w' => e = .returned (.int .i64 r) ∧ Drawn0 w w' := by
  unfold damperlaw3_within.f at h
  by_cases c3 : a1 = 0
  · rw [if_pos c3] at h; cases h
  rw [if_neg c3] at h
  refine (damperlaw3_within.same a0 a1 (Option.some.inj h) c3 w).mono ?_
  rintro e w' ⟨rfl, rfl⟩
  exact ⟨rfl, Drawn0.refl _⟩

/-! ### damperlaw2_within: function 67 -/
def damperlaw2_within.f (a0 : Int) (a1 : Int) : Option (Int) := if a1 = 0 then (none) else some (wi a0 a1)
set_option maxHeartbeats 8000000 in
set_option maxRecDepth 100000 in
theorem damperlaw2_within.same (a0 : Int) (a1 : Int) {r : Int} (hr : wi a0 a1 = r) (c3 : a1 ≠ 0) (w : World) :
    Calls Tryd.prog 67 #[.int .i64 a0, .int .i64 a1] w fun e w' => e = .returned (.int .i64 r) ∧ w' = w := by
  subst hr
  have c3b0 : (a1 == 0) = false := beq_eq_false_iff_ne.mpr c3
  have c3b1 : (a1 != 0) = true := bne_iff_ne.mpr c3
  by_cases c4 : (Int.tmod a0 a1) < 0
  · have hw : wi a0 a1 = wrap64 (Int.tmod a0 a1 + a1) := by unfold wi; rw [if_pos c4]
    rw [hw]; clear hw
    have c4b0 : decide ((Int.tmod a0 a1) < 0) = true := decide_eq_true c4
    clear c4
    go_enter Tryd.func67, Tryd.ntmps67
    go_wp2
    go_ret
    exact ⟨by first | rfl | (simp; done) | (simp [*]; done), rfl⟩
  · have hw : wi a0 a1 = Int.tmod a0 a1 := by unfold wi; rw [if_neg c4]
    rw [hw]; clear hw
    have c4b0 : decide ((Int.tmod a0 a1) < 0) = false := decide_eq_false c4
    clear c4
    go_enter Tryd.func67, Tryd.ntmps67
    go_wp2
    go_ret
    exact ⟨by first | rfl | (simp; done) | (simp [*]; done), rfl⟩
theorem damperlaw2_within.keep (a0 : Int) (a1 : Int) {r : Int} (hr : wi a0 a1 = r) (c3 : a1 ≠ 0) (w : World) :
    Calls Tryd.prog 67 #[.int .i64 a0, .int .i64 a1] w fun e w' => e = .returned (.int .i64 r) ∧ w = w' :=
  (damperlaw2_within.same a0 a1 hr c3 w).mono fun _ _ h => ⟨h.1, h.2.symm⟩
theorem damperlaw2_within.calls (a0 : Int) (a1 : Int) (r : Int) (w : World) (h : damperlaw2_within.f a0 a1 = some r) :
    Calls Tryd.prog 67 #[.int .i64 a0, .int .i64 a1] w fun e w' => e = .returned (.int .i64 r) ∧ Drawn0 w w' := by
  unfold damperlaw2_within.f at h
  by_cases c3 : a1 = 0
  · rw [if_pos c3] at h; cases h
  rw [if_neg c3] at h
  refine (damperlaw2_within.same a0 a1 (Option.some.inj h) c3 w).mono ?_
  rintro e w' ⟨rfl, rfl⟩
  exact ⟨rfl, Drawn0.refl _⟩

/-! ### damperlaw2_Config: function 27 -/
def damperlaw2_Config.f (a0_0 : ByteArray) (a0_1 : Int) (a0_2 : Int) (a0_3 : Int) (a0_4 : Int) (a0_5 : Int) (a1 : Int) : Option (ByteArray × Int × Int × Int × Int × Int) := (some (([(⟨#[119, 101, 98]⟩ : ByteArray), (⟨#[97, 112, 105]⟩ : ByteArray), (⟨#[97, 45, 98]⟩ : ByteArray)] : List ByteArray) : List ByteArray)).bind fun y209 => (if 0 ≤ (wi a1 3) then (if (wi a1 3) < (y209.length : Int) then (if (wrap64 ((wrap64 (1 + (wi a0_4 10))) + 1)) = 0 then (none) else (some (rdOf ByteArray.empty y209 (wi a1 3), wi a0_1 256, wrap64 (1 + (wi a0_2 8)), wi a0_3 (wrap64 ((wrap64 (1 + (wi a0_4 10))) + 1)), wrap64 (1 + (wi a0_4 10)), wi a0_5 31))) else (none)) else (none))
set_option maxHeartbeats 8000000 in
set_option maxRecDepth 100000 in
theorem damperlaw2_Config.calls (a0_0 : ByteArray) (a0_1 : Int) (a0_2 : Int) (a0_3 : Int) (a0_4 : Int) (a0_5 : Int) (a1 : Int) (r1 : ByteArray) (r2 : Int) (r3 : Int) (r4 : Int) (r5 : Int) (r6 : Int) (w : World) (h : damperlaw2_Config.f a0_0 a0_1 a0_2 a0_3 a0_4 a0_5 a1 = some (r1, r2, r3, r4, r5, r6)) :
    Calls Tryd.prog 27 #[.agg #[.string a0_0, .int .i64 a0_1, .int .i64 a0_2, .int .i64 a0_3, .int .i64 a0_4, .int .i64 a0_5], .int .i64 a1] w fun e w' => e = .returned (.agg #[.string r1, .int .i64 r2, .int .i64 r3, .int .i64 r4, .int .i64 r5, .int .i64 r6]) ∧ Below w.heap.size w w' := by
  have hu23 := Tryd.underlying23
  have HB := Aside0.mk (Below.refl w.heap.size w)
  have H : ((some (([(⟨#[119, 101, 98]⟩ : ByteArray), (⟨#[97, 112, 105]⟩ : ByteArray), (⟨#[97, 45, 98]⟩ : ByteArray)] : List ByteArray) : List ByteArray)).bind fun y209 => (if 0 ≤ (wi a1 3) then (if (wi a1 3) < (y209.length : Int) then (if (wrap64 ((wrap64 (1 + (wi a0_4 10))) + 1)) = 0 then (none) else (some (rdOf ByteArray.empty y209 (wi a1 3), wi a0_1 256, wrap64 (1 + (wi a0_2 8)), wi a0_3 (wrap64 ((wrap64 (1 + (wi a0_4 10))) + 1)), wrap64 (1 + (wi a0_4 10)), wi a0_5 31))) else (none)) else (none))) = some (r1, r2, r3, r4, r5, r6) := h
  clear h
  obtain ⟨y209, hy209⟩ : ∃ y_ : List ByteArray, y_ = (([(⟨#[119, 101, 98]⟩ : ByteArray), (⟨#[97, 112, 105]⟩ : ByteArray), (⟨#[97, 45, 98]⟩ : ByteArray)] : List ByteArray)) := ⟨_, rfl⟩
  replace H : (if 0 ≤ (wi a1 3) then (if (wi a1 3) < (y209.length : Int) then (if (wrap64 ((wrap64 (1 + (wi a0_4 10))) + 1)) = 0 then (none) else (some (rdOf ByteArray.empty y209 (wi a1 3), wi a0_1 256, wrap64 (1 + (wi a0_2 8)), wi a0_3 (wrap64 ((wrap64 (1 + (wi a0_4 10))) + 1)), wrap64 (1 + (wi a0_4 10)), wi a0_5 31))) else (none)) else (none)) = some (r1, r2, r3, r4, r5, r6) := by first | (rw [hy209]; with_reducible exact H) | (have H2_ := (Option.bind_some _ _).symm.trans H; rw [hy209]; with_reducible exact H2_) | (have H2_ := (Option.bind_some _ _).symm.trans H; with_reducible exact H2_) | with_reducible exact H | (rw [hy209]; exact H) | exact H
  have Ny209 := Aside0.mk hy209
  clear hy209
  obtain ⟨ji3, hji3⟩ : ∃ j_ : Int, (wi a1 3) = j_ := ⟨_, rfl⟩
  replace H : (if 0 ≤ (ji3) then (if (ji3) < (y209.length : Int) then (if (wrap64 ((wrap64 (1 + (wi a0_4 10))) + 1)) = 0 then (none) else (some (rdOf ByteArray.empty y209 (ji3), wi a0_1 256, wrap64 (1 + (wi a0_2 8)), wi a0_3 (wrap64 ((wrap64 (1 + (wi a0_4 10))) + 1)), wrap64 (1 + (wi a0_4 10)), wi a0_5 31))) else (none)) else (none)) = some (r1, r2, r3, r4, r5, r6) := by first | (rw [hji3] at H; exact H) | (simp only [hji3] at H ⊢; exact H)
  by_cases c4 : 0 ≤ (ji3)
  rotate_left
  · rw [if_neg c4] at H
    exact absurd H (by simp)
  rw [if_pos c4] at H
  have c4b0 : decide (0 ≤ (ji3)) = true := decide_eq_true c4
  clear c4
  by_cases c5 : (ji3) < (y209.length : Int)
  rotate_left
  · rw [if_neg c5] at H
    exact absurd H (by simp)
  rw [if_pos c5] at H
  have c5b0 : decide ((ji3) < (y209.length : Int)) = true := decide_eq_true c5
  clear c5
  obtain ⟨ji6, hji6⟩ : ∃ j_ : Int, (wi a0_1 256) = j_ := ⟨_, rfl⟩
  replace H : (if (wrap64 ((wrap64 (1 + (wi a0_4 10))) + 1)) = 0 then (none) else (some (rdOf ByteArray.empty y209 (ji3), ji6, wrap64 (1 + (wi a0_2 8)), wi a0_3 (wrap64 ((wrap64 (1 + (wi a0_4 10))) + 1)), wrap64 (1 + (wi a0_4 10)), wi a0_5 31))) = some (r1, r2, r3, r4, r5, r6) := by first | (rw [hji6] at H; exact H) | (simp only [hji6] at H ⊢; exact H)
  obtain ⟨ji7, hji7⟩ : ∃ j_ : Int, (wi a0_2 8) = j_ := ⟨_, rfl⟩
  replace H : (if (wrap64 ((wrap64 (1 + (wi a0_4 10))) + 1)) = 0 then (none) else (some (rdOf ByteArray.empty y209 (ji3), ji6, wrap64 (1 + (ji7)), wi a0_3 (wrap64 ((wrap64 (1 + (wi a0_4 10))) + 1)), wrap64 (1 + (wi a0_4 10)), wi a0_5 31))) = some (r1, r2, r3, r4, r5, r6) := by first | (rw [hji7] at H; exact H) | (simp only [hji7] at H ⊢; exact H)
  obtain ⟨ji8, hji8⟩ : ∃ j_ : Int, (wi a0_4 10) = j_ := ⟨_, rfl⟩
  replace H : (if (wrap64 ((wrap64 (1 + (ji8))) + 1)) = 0 then (none) else (some (rdOf ByteArray.empty y209 (ji3), ji6, wrap64 (1 + (ji7)), wi a0_3 (wrap64 ((wrap64 (1 + (ji8))) + 1)), wrap64 (1 + (ji8)), wi a0_5 31))) = some (r1, r2, r3, r4, r5, r6) := by first | (rw [hji8] at H; exact H) | (simp only [hji8] at H ⊢; exact H)
  by_cases c9 : (wrap64 ((wrap64 (1 + (ji8))) + 1)) = 0
  · rw [if_pos c9] at H
    exact absurd H (by simp)
  rw [if_neg c9] at H
  have c9b0 : ((wrap64 ((wrap64 (1 + (ji8))) + 1)) == 0) = false := beq_eq_false_iff_ne.mpr c9
  have c9b1 : ((wrap64 ((wrap64 (1 + (ji8))) + 1)) != 0) = true := bne_iff_ne.mpr c9
  obtain ⟨ji10, hji10⟩ : ∃ j_ : Int, (wi a0_3 (wrap64 ((wrap64 (1 + (ji8))) + 1))) = j_ := ⟨_, rfl⟩
  replace H : (some (rdOf ByteArray.empty y209 (ji3), ji6, wrap64 (1 + (ji7)), ji10, wrap64 (1 + (ji8)), wi a0_5 31)) = some (r1, r2, r3, r4, r5, r6) := by first | (rw [hji10] at H; exact H) | (simp only [hji10] at H ⊢; exact H)
  obtain ⟨ji11, hji11⟩ : ∃ j_ : Int, (wi a0_5 31) = j_ := ⟨_, rfl⟩
  replace H : (some (rdOf ByteArray.empty y209 (ji3), ji6, wrap64 (1 + (ji7)), ji10, wrap64 (1 + (ji8)), ji11)) = some (r1, r2, r3, r4, r5, r6) := by first | (rw [hji11] at H; exact H) | (simp only [hji11] at H ⊢; exact H)
  simp only [Option.some.injEq, Prod.mk.injEq] at H
  obtain ⟨rfl, rfl, rfl, rfl, rfl, rfl⟩ := H
  go_enter Tryd.func27, Tryd.ntmps27
  go_wp2_with (first | (go_at_call 67; refine (damperlaw2_within.keep _ _ rfl (by first | decide | assumption | exact wi_ne (by assumption) | exact wi_ne' (by assumption) | omega) _).mono ?_; rintro e w' ⟨rfl, rfl⟩) | ((with_reducible refine gate_dst (N := 2) rfl ?_); refine box_event ?hg (N := 2) ?hd (cs := #[.string a0_0, .int .i64 a0_1, .int .i64 a0_2, .int .i64 a0_3, .int .i64 a0_4, .int .i64 a0_5]) (t := 23) ?hr ?_; (case hd => rfl); (case hg => rfl); (case hr => first | (go_simp; done) | (go_simp; rfl)); intro gb207 hg w12 hbox hb; have n0_ := Aside0.mk (below_step (by repeat (first | (with_reducible first | exact HB.out | apply below_alloc | apply pw_below_drewN | apply below_drew1) | exact HB.out)) hb); have n1_ := Aside0.mk (hbox); have n2_ := Aside0.mk ((by rw [hg]; exact (below_size (by repeat (first | (with_reducible first | exact HB.out | apply below_alloc | apply pw_below_drewN | apply below_drew1) | exact HB.out))) : w.heap.size ≤ gb207)); have n3_ := Aside0.mk ((by rw [hg]; exact (below_size (by repeat (first | (with_reducible first | exact HB.out | apply below_alloc | apply pw_below_drewN | apply below_drew1) | exact HB.out))) : w.heap.size ≤ gb207)); clear HB; have HB := n0_; have BK207 := n1_; have GW207 := n2_; have GE207 := n3_; clear n0_ n1_ n2_ n3_; clear hb hbox hg) | ((with_reducible refine gate_dst (N := 4) rfl ?_); refine box_event ?hg (N := 4) ?hd (cs := #[.string (⟨#[]⟩ : ByteArray), .int .i64 0, .int .i64 0, .int .i64 0, .int .i64 0, .int .i64 0]) (t := 23) ?hr ?_; (case hd => rfl); (case hg => rfl); (case hr => first | (go_simp; done) | (go_simp; rfl)); intro gb208 hg w13 hbox hb; have n0_ := Aside0.mk (blk_below (g := gb207) (pk BK207) hb); have n1_ := Aside0.mk (below_step (by repeat (first | (with_reducible first | exact HB.out | apply below_alloc | apply pw_below_drewN | apply below_drew1 | refine below_set ?_ GE207.out) | exact HB.out)) hb); have n2_ := Aside0.mk (hbox); have n3_ := Aside0.mk ((by rw [hg]; exact (below_size (by repeat (first | (with_reducible first | exact HB.out | apply below_alloc | apply pw_below_drewN | apply below_drew1 | refine below_set ?_ GE207.out) | exact HB.out))) : w.heap.size ≤ gb208)); have n4_ := Aside0.mk ((by rw [hg]; exact (below_size (by repeat (first | (with_reducible first | exact HB.out | apply below_alloc | apply pw_below_drewN | apply below_drew1 | refine below_set ?_ GE207.out) | exact HB.out))) : w.heap.size ≤ gb208)); have n5_ := Aside0.mk ((ne_lt hg (pk BK207) : gb207 ≠ gb208)); have n6_ := Aside0.mk ((ne_gt hg (pk BK207) : gb208 ≠ gb207)); clear BK207; clear HB; have BK207 := n0_; have HB := n1_; have BK208 := n2_; have GW208 := n3_; have GE208 := n4_; have NB207_208 := n5_; have NB208_207 := n6_; clear n0_ n1_ n2_ n3_ n4_ n5_ n6_; clear hb hbox hg) | ((with_reducible refine gate_dst (N := 5) rfl ?_); refine Kd.R_lit Kd.string _ 9 ?hg (N := 5) ?hd (xs := ([(⟨#[119, 101, 98]⟩ : ByteArray), (⟨#[97, 112, 105]⟩ : ByteArray), (⟨#[97, 45, 98]⟩ : ByteArray)] : List ByteArray)) (inner := [.string (⟨#[119, 101, 98]⟩ : ByteArray), .string (⟨#[97, 112, 105]⟩ : ByteArray), .string (⟨#[97, 45, 98]⟩ : ByteArray)]) (ok := fun _ => True) (okp := fun _ => True) ?hr ?hp (fun _ hk => hk) trivial (Below.refl _ _) (Nat.le_refl _) (by simp) ?_; (case hd => rfl); (case hg => rfl); (case hr => first | (go_simp; done) | (go_simp; rfl)); (case hp => exact (Reps.one (show Kd.M Kd.string _ _ _ (⟨#[119, 101, 98]⟩ : ByteArray) [.string (⟨#[119, 101, 98]⟩ : ByteArray)] from rfl) (Reps.one (show Kd.M Kd.string _ _ _ (⟨#[97, 112, 105]⟩ : ByteArray) [.string (⟨#[97, 112, 105]⟩ : ByteArray)] from rfl) (Reps.one (show Kd.M Kd.string _ _ _ (⟨#[97, 45, 98]⟩ : ByteArray) [.string (⟨#[97, 45, 98]⟩ : ByteArray)] from rfl) (Reps.none _ _))))); intro v210 w14 ho15 hb hg_ hnew_; clear hg_ hnew_; (first | rw [← Ny209.out] at ho15 | (simp only [Int.reduceToNat] at ho15; rw [← Ny209.out] at ho15)); have n0_ := Aside0.mk (Kd.R_lower ho15 (below_size (by repeat (first | (with_reducible first | exact HB.out | apply below_alloc | apply pw_below_drewN | apply below_drew1 | refine below_set ?_ GE207.out | refine below_set ?_ GE208.out) | exact HB.out)))); have n1_ := Aside0.mk (blk_below (g := gb207) (pk BK207) hb); have n2_ := Aside0.mk (blk_below (g := gb208) (pk BK208) hb); have n3_ := Aside0.mk (below_step (by repeat (first | (with_reducible first | exact HB.out | apply below_alloc | apply pw_below_drewN | apply below_drew1 | refine below_set ?_ GE207.out | refine below_set ?_ GE208.out) | exact HB.out)) hb); clear BK207; clear BK208; clear HB; have HO211 := n0_; have BK207 := n1_; have BK208 := n2_; have HB := n3_; clear n0_ n1_ n2_ n3_; clear hb ho15; obtain ⟨Ao16, co16, eo16⟩ := Kd.R_slice HO211.out; subst eo16; have p212 : 0 ≤ ((ji3) : Int) := of_decide_eq_true (by first | (with_reducible assumption) | assumption); have q212 : (ji3) < (y209.length : Int) := of_decide_eq_true (by first | (with_reducible assumption) | assumption); obtain ⟨ad212, e212, hx212_0⟩ := Kd.at_string (Kd.R_reads' HO211.out).2.2 (ji3) p212 q212; cases e212; replace p212 := eq_true p212; replace q212 := eq_true q212; have hnb17 := NB207_208.out; have hnc17 := NB208_207.out; have hcz18_0 : w14.cell? ⟨gb207, 0, none⟩ = some (.string a0_0) := bc BK207 0; have hcz18_1 : w14.cell? ⟨gb207, 1, none⟩ = some (.int .i64 a0_1) := bc BK207 1; have hcz18_2 : w14.cell? ⟨gb207, 2, none⟩ = some (.int .i64 a0_2) := bc BK207 2; have hcz18_3 : w14.cell? ⟨gb207, 3, none⟩ = some (.int .i64 a0_3) := bc BK207 3; have hcz18_4 : w14.cell? ⟨gb207, 4, none⟩ = some (.int .i64 a0_4) := bc BK207 4; have hcz18_5 : w14.cell? ⟨gb207, 5, none⟩ = some (.int .i64 a0_5) := bc BK207 5; have hfz18_0 := blk_frozen BK207.out 0; have hfz18_1 := blk_frozen BK207.out 1; have hfz18_2 := blk_frozen BK207.out 2; have hfz18_3 := blk_frozen BK207.out 3; have hfz18_4 := blk_frozen BK207.out 4; have hfz18_5 := blk_frozen BK207.out 5; have hcz19_0 : w14.cell? ⟨gb208, 0, none⟩ = some (.string (⟨#[]⟩ : ByteArray)) := bc BK208 0; have hcz19_1 : w14.cell? ⟨gb208, 1, none⟩ = some (.int .i64 0) := bc BK208 1; have hcz19_2 : w14.cell? ⟨gb208, 2, none⟩ = some (.int .i64 0) := bc BK208 2; have hcz19_3 : w14.cell? ⟨gb208, 3, none⟩ = some (.int .i64 0) := bc BK208 3; have hcz19_4 : w14.cell? ⟨gb208, 4, none⟩ = some (.int .i64 0) := bc BK208 4; have hcz19_5 : w14.cell? ⟨gb208, 5, none⟩ = some (.int .i64 0) := bc BK208 5; have hfz19_0 := blk_frozen BK208.out 0; have hfz19_1 := blk_frozen BK208.out 1; have hfz19_2 := blk_frozen BK208.out 2; have hfz19_3 := blk_frozen BK208.out 3; have hfz19_4 := blk_frozen BK208.out 4; have hfz19_5 := blk_frozen BK208.out 5))
  refine bodyPost_ret (results_cell_row rfl _ _ gb208 23 #[.string (rdOf ByteArray.empty y209 (ji3)), .int .i64 ji6, .int .i64 (wrap64 (1 + (ji7))), .int .i64 ji10, .int .i64 (wrap64 (1 + (ji8))), .int .i64 ji11] (0, 0) _ rfl (by (with_reducible repeat (first | refine blk_drewN ?_ _ | refine blk_drew ?_ | refine blk_alloc ?_ _)); refine blk_put (cs := #[.string (rdOf ByteArray.empty y209 (ji3)), .int .i64 ji6, .int .i64 (wrap64 (1 + (ji7))), .int .i64 ji10, .int .i64 (wrap64 (1 + (ji8))), .int .i64 0]) ?_ 5 _ rfl; (with_reducible repeat (first | refine blk_drewN ?_ _ | refine blk_drew ?_ | refine blk_alloc ?_ _)); refine blk_put (cs := #[.string (rdOf ByteArray.empty y209 (ji3)), .int .i64 ji6, .int .i64 (wrap64 (1 + (ji7))), .int .i64 ji10, .int .i64 0, .int .i64 0]) ?_ 4 _ rfl; (with_reducible repeat (first | refine blk_drewN ?_ _ | refine blk_drew ?_ | refine blk_alloc ?_ _)); refine blk_put (cs := #[.string (rdOf ByteArray.empty y209 (ji3)), .int .i64 ji6, .int .i64 (wrap64 (1 + (ji7))), .int .i64 0, .int .i64 0, .int .i64 0]) ?_ 3 _ rfl; (with_reducible repeat (first | refine blk_drewN ?_ _ | refine blk_drew ?_ | refine blk_alloc ?_ _)); refine blk_put (cs := #[.string (rdOf ByteArray.empty y209 (ji3)), .int .i64 ji6, .int .i64 0, .int .i64 0, .int .i64 0, .int .i64 0]) ?_ 2 _ rfl; (with_reducible repeat (first | refine blk_drewN ?_ _ | refine blk_drew ?_ | refine blk_alloc ?_ _)); refine blk_put (cs := #[.string (rdOf ByteArray.empty y209 (ji3)), .int .i64 0, .int .i64 0, .int .i64 0, .int .i64 0, .int .i64 0]) ?_ 1 _ rfl; (with_reducible repeat (first | refine blk_drewN ?_ _ | refine blk_drew ?_ | refine blk_alloc ?_ _)); refine blk_put (cs := #[.string (⟨#[]⟩ : ByteArray), .int .i64 0, .int .i64 0, .int .i64 0, .int .i64 0, .int .i64 0]) ?_ 0 _ rfl; (repeat ((with_reducible repeat (first | refine blk_drewN ?_ _ | refine blk_drew ?_ | refine blk_alloc ?_ _)); with_reducible refine blk_far ?_ NB208_207.out _)); (with_reducible repeat (first | refine blk_drewN ?_ _ | refine blk_drew ?_ | refine blk_alloc ?_ _)); exact BK208.out) Tryd.underlying23 rfl (by kernel_rfl)) rfl ?_
  exact ⟨by first | rfl | (simp [errW_none, errW_some] <;> rfl) | (simp only [← hji3, ← hji6, ← hji7, ← hji8, ← hji10, ← hji11]; first | rfl | (simp [errW_none, errW_some] <;> rfl)) | (simp [*, errW_none, errW_some] <;> rfl), by repeat (first | (with_reducible first | exact HB.out | apply below_alloc | apply pw_below_drewN | apply below_drew1 | refine below_set ?_ GE207.out | refine below_set ?_ GE208.out) | exact HB.out)⟩

end Go.Proofs.YtalpoojepffldaaDoor.Ma
