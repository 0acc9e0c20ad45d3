-- Written by a program of this session (wip/tools/myprint.py), in the form of the kit's print. Not trusted: Lean checks it.
import Derived.Test.YthdpnbfjpbiieaaDoorMax0
namespace Go.Proofs.YthdpnbfjpbiieaaDoor.Ma
open Go.RowKit Go.Proofs.YthdpnbfjpbiieaaDoorW.PrintWords Go.Proofs.YthdpnbfjpbiieaaDoorW.PrintLast Go.Proofs.YthdpnbfjpbiieaaDoorW.PrintMore
attribute [local go_sem] max2_int min2_int max_two min_two max_three min_three max_four min_four   -- for this text's walks alone
set_option linter.unusedVariables false
set_option linter.unusedSimpArgs false

/-! ### damperlaw2_Few: function 17 -/
def damperlaw2_Few.f (a0_0 : ByteArray) (a0_1 : ByteArray) (l0_2 : List (S41)) (a0_3 : Int) : Option (Bool) := if (l0_2.length : Int) ≤ 12 then (if (a0_0.size : Int) ≤ 60 then (some (decide ((a0_1.size : Int) ≤ 60))) else (some false)) else (some false)
set_option maxHeartbeats 8000000 in
set_option maxRecDepth 100000 in
theorem damperlaw2_Few.calls (a0_0 : ByteArray) (a0_1 : ByteArray) (A0_2 : Option Addr) (c0_2 : Nat) (l0_2 : List (S41)) (a0_3 : Int) (r : Bool) (w : World) (hr0_2 : Kd.C k41 w A0_2 l0_2.length l0_2) (hc0_2 : l0_2.length ≤ c0_2) (h : damperlaw2_Few.f a0_0 a0_1 l0_2 a0_3 = some r) :
    Calls Tryd.prog 17 #[.agg #[.string a0_0, .string a0_1, .slice A0_2 l0_2.length c0_2, .int .i64 a0_3]] w fun e w' => e = .returned (.bool r) ∧ Below w.heap.size w w' := by
  have hu35 := Tryd.underlying35
  have HR0_2 := Aside0.mk hr0_2
  have HC0_2 := Aside0.mk hc0_2
  clear hr0_2 hc0_2
  have HB := Aside0.mk (Below.refl w.heap.size w)
  have H : (if (l0_2.length : Int) ≤ 12 then (if (a0_0.size : Int) ≤ 60 then (some (decide ((a0_1.size : Int) ≤ 60))) else (some false)) else (some false)) = some r := h
  clear h
  by_cases c2 : (l0_2.length : Int) ≤ 12
  · rw [if_pos c2] at H
    have c2b0 : decide ((l0_2.length : Int) ≤ 12) = true := decide_eq_true c2
    have c2b1 : decide (l0_2.length ≤ 12) = true := decide_eq_true (by omega)
    clear c2
    by_cases c3 : (a0_0.size : Int) ≤ 60
    · rw [if_pos c3] at H
      have c3b0 : decide ((a0_0.size : Int) ≤ 60) = true := decide_eq_true c3
      have c3b1 : decide (a0_0.size ≤ 60) = true := decide_eq_true (by omega)
      clear c3
      obtain rfl := Option.some.inj H
      go_enter Tryd.func17, Tryd.ntmps17
      go_wp2_with (first | ((with_reducible refine gate_dst (N := 1) rfl ?_); (try (refine gate_guard (by rfl) ?_; dsimp only)); refine box_event ?hg (N := 1) ?hd (cs := #[.string a0_0, .string a0_1, .slice A0_2 l0_2.length c0_2, .int .i64 a0_3]) (t := 35) ?hr ?_; (case hd => rfl); (case hg => rfl); (case hr => first | (go_simp; done) | (go_simp; rfl)); intro gb213 hg w4 hbox hb; have n0_ := Aside0.mk (below_step (by repeat (first | (with_reducible first | exact HB.out | apply below_alloc | apply pw_below_drewN | apply below_drew1) | exact HB.out)) hb); have n1_ := Aside0.mk (hbox); have n2_ := Aside0.mk ((by rw [hg]; exact (below_size (by repeat (first | (with_reducible first | exact HB.out | apply below_alloc | apply pw_below_drewN | apply below_drew1) | exact HB.out))) : w.heap.size ≤ gb213)); have n3_ := Aside0.mk ((by rw [hg]; exact (below_size (by repeat (first | (with_reducible first | exact HB.out | apply below_alloc | apply pw_below_drewN | apply below_drew1) | exact HB.out))) : w.heap.size ≤ gb213)); clear HB; have HB := n0_; have BK213 := n1_; have GW213 := n2_; have GE213 := n3_; clear n0_ n1_ n2_ n3_; clear hb hbox hg; have hcz5_0 : w4.cell? ⟨gb213, 0, none⟩ = some (.string a0_0) := bc BK213 0; have hcz5_1 : w4.cell? ⟨gb213, 1, none⟩ = some (.string a0_1) := bc BK213 1; have hcz5_2 : w4.cell? ⟨gb213, 2, none⟩ = some (.slice A0_2 l0_2.length c0_2) := bc BK213 2; have hcz5_3 : w4.cell? ⟨gb213, 3, none⟩ = some (.int .i64 a0_3) := bc BK213 3; have hfz5_0 := blk_frozen BK213.out 0; have hfz5_1 := blk_frozen BK213.out 1; have hfz5_2 := blk_frozen BK213.out 2; have hfz5_3 := blk_frozen BK213.out 3))
      go_ret
      exact ⟨by first | rfl | (simp [errW_none, errW_some] <;> rfl) | (simp [*, errW_none, errW_some] <;> rfl), by repeat (first | (with_reducible first | exact HB.out | apply below_alloc | apply pw_below_drewN | apply below_drew1 | refine below_set ?_ GE213.out) | exact HB.out)⟩
    · rw [if_neg c3] at H
      have c3b0 : decide ((a0_0.size : Int) ≤ 60) = false := decide_eq_false c3
      have c3b1 : decide (a0_0.size ≤ 60) = false := decide_eq_false (by omega)
      clear c3
      obtain rfl := Option.some.inj H
      go_enter Tryd.func17, Tryd.ntmps17
      go_wp2_with (first | ((with_reducible refine gate_dst (N := 1) rfl ?_); (try (refine gate_guard (by rfl) ?_; dsimp only)); refine box_event ?hg (N := 1) ?hd (cs := #[.string a0_0, .string a0_1, .slice A0_2 l0_2.length c0_2, .int .i64 a0_3]) (t := 35) ?hr ?_; (case hd => rfl); (case hg => rfl); (case hr => first | (go_simp; done) | (go_simp; rfl)); intro gb213 hg w6 hbox hb; have n0_ := Aside0.mk (below_step (by repeat (first | (with_reducible first | exact HB.out | apply below_alloc | apply pw_below_drewN | apply below_drew1) | exact HB.out)) hb); have n1_ := Aside0.mk (hbox); have n2_ := Aside0.mk ((by rw [hg]; exact (below_size (by repeat (first | (with_reducible first | exact HB.out | apply below_alloc | apply pw_below_drewN | apply below_drew1) | exact HB.out))) : w.heap.size ≤ gb213)); have n3_ := Aside0.mk ((by rw [hg]; exact (below_size (by repeat (first | (with_reducible first | exact HB.out | apply below_alloc | apply pw_below_drewN | apply below_drew1) | exact HB.out))) : w.heap.size ≤ gb213)); clear HB; have HB := n0_; have BK213 := n1_; have GW213 := n2_; have GE213 := n3_; clear n0_ n1_ n2_ n3_; clear hb hbox hg; have hcz7_0 : w6.cell? ⟨gb213, 0, none⟩ = some (.string a0_0) := bc BK213 0; have hcz7_1 : w6.cell? ⟨gb213, 1, none⟩ = some (.string a0_1) := bc BK213 1; have hcz7_2 : w6.cell? ⟨gb213, 2, none⟩ = some (.slice A0_2 l0_2.length c0_2) := bc BK213 2; have hcz7_3 : w6.cell? ⟨gb213, 3, none⟩ = some (.int .i64 a0_3) := bc BK213 3; have hfz7_0 := blk_frozen BK213.out 0; have hfz7_1 := blk_frozen BK213.out 1; have hfz7_2 := blk_frozen BK213.out 2; have hfz7_3 := blk_frozen BK213.out 3))
      go_ret
      exact ⟨by first | rfl | (simp [errW_none, errW_some] <;> rfl) | (simp [*, errW_none, errW_some] <;> rfl), by repeat (first | (with_reducible first | exact HB.out | apply below_alloc | apply pw_below_drewN | apply below_drew1 | refine below_set ?_ GE213.out) | exact HB.out)⟩
  · rw [if_neg c2] at H
    have c2b0 : decide ((l0_2.length : Int) ≤ 12) = false := decide_eq_false c2
    have c2b1 : decide (l0_2.length ≤ 12) = false := decide_eq_false (by omega)
    clear c2
    obtain rfl := Option.some.inj H
    go_enter Tryd.func17, Tryd.ntmps17
    go_wp2_with (first | ((with_reducible refine gate_dst (N := 1) rfl ?_); (try (refine gate_guard (by rfl) ?_; dsimp only)); refine box_event ?hg (N := 1) ?hd (cs := #[.string a0_0, .string a0_1, .slice A0_2 l0_2.length c0_2, .int .i64 a0_3]) (t := 35) ?hr ?_; (case hd => rfl); (case hg => rfl); (case hr => first | (go_simp; done) | (go_simp; rfl)); intro gb213 hg w8 hbox hb; have n0_ := Aside0.mk (below_step (by repeat (first | (with_reducible first | exact HB.out | apply below_alloc | apply pw_below_drewN | apply below_drew1) | exact HB.out)) hb); have n1_ := Aside0.mk (hbox); have n2_ := Aside0.mk ((by rw [hg]; exact (below_size (by repeat (first | (with_reducible first | exact HB.out | apply below_alloc | apply pw_below_drewN | apply below_drew1) | exact HB.out))) : w.heap.size ≤ gb213)); have n3_ := Aside0.mk ((by rw [hg]; exact (below_size (by repeat (first | (with_reducible first | exact HB.out | apply below_alloc | apply pw_below_drewN | apply below_drew1) | exact HB.out))) : w.heap.size ≤ gb213)); clear HB; have HB := n0_; have BK213 := n1_; have GW213 := n2_; have GE213 := n3_; clear n0_ n1_ n2_ n3_; clear hb hbox hg; have hcz9_0 : w8.cell? ⟨gb213, 0, none⟩ = some (.string a0_0) := bc BK213 0; have hcz9_1 : w8.cell? ⟨gb213, 1, none⟩ = some (.string a0_1) := bc BK213 1; have hcz9_2 : w8.cell? ⟨gb213, 2, none⟩ = some (.slice A0_2 l0_2.length c0_2) := bc BK213 2; have hcz9_3 : w8.cell? ⟨gb213, 3, none⟩ = some (.int .i64 a0_3) := bc BK213 3; have hfz9_0 := blk_frozen BK213.out 0; have hfz9_1 := blk_frozen BK213.out 1; have hfz9_2 := blk_frozen BK213.out 2; have hfz9_3 := blk_frozen BK213.out 3))
    go_ret
    exact ⟨by first | rfl | (simp [errW_none, errW_some] <;> rfl) | (simp [*, errW_none, errW_some] <;> rfl), by repeat (first | (with_reducible first | exact HB.out | apply below_alloc | apply pw_below_drewN | apply below_drew1 | refine below_set ?_ GE213.out) | exact HB.out)⟩

end Go.Proofs.YthdpnbfjpbiieaaDoor.Ma
