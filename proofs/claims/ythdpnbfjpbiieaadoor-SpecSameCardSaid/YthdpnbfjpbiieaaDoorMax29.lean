-- Written by a program of this session (wip/tools/myprint.py), in the form of the kit's print. Not trusted: Lean checks it.
import Derived.Test.YthdpnbfjpbiieaaDoorMax0
import Derived.Test.YthdpnbfjpbiieaaDoorMax1
namespace Go.Proofs.YthdpnbfjpbiieaaDoor.Ma
open Go.RowKit Go.Proofs.YthdpnbfjpbiieaaDoorW.PrintWords Go.Proofs.YthdpnbfjpbiieaaDoorW.PrintLast Go.Proofs.YthdpnbfjpbiieaaDoorW.PrintMore
attribute [local go_sem] max2_int min2_int max_two min_two max_three min_three max_four min_four   -- for this text's walks alone
set_option linter.unusedVariables false
set_option linter.unusedSimpArgs false

attribute [local go_sem high] eqA41
/-! ### damperref2_SameRoute: function 23 -/
mutual
def damperref2_SameRoute.j0 : Nat → Bool → ByteArray → ByteArray → List (S41) → Int → ByteArray → ByteArray → List (S41) → Int → Option (Bool)
  | 0, _, _, _, _, _, _, _, _, _ => none
  | k + 1, x33, x401000, x401001, x401002, x401003, x402000, x402001, x402002, x402003 => if x33 = true then (some false) else (damperref2_SameRoute.l0 k 0 x401000 x401001 x401002 x401003 x402000 x402001 x402002 x402003)
def damperref2_SameRoute.l0 : Nat → Int → ByteArray → ByteArray → List (S41) → Int → ByteArray → ByteArray → List (S41) → Int → Option (Bool)
  | 0, _, _, _, _, _, _, _, _, _ => none
  | k + 1, x5, x401000, x401001, x401002, x401003, x402000, x402001, x402002, x402003 => if x5 < (x401002.length : Int) then (if 0 ≤ x5 then (if x5 < (x402002.length : Int) then (if (!((((rd_T41 x401002 x5).f0).toList) == (((rd_T41 x402002 x5).f0).toList)) || (!((((rd_T41 x401002 x5).f1).toList) == (((rd_T41 x402002 x5).f1).toList)) || (!(((rd_T41 x401002 x5).f2) == ((rd_T41 x402002 x5).f2))))) = true then (some false) else (damperref2_SameRoute.l0 k (wrap64 (x5 + 1)) x401000 x401001 x401002 x401003 x402000 x402001 x402002 x402003)) else (none)) else (none)) else (some true)
end
def damperref2_SameRoute.f (k : Nat) (a0_0 : ByteArray) (a0_1 : ByteArray) (l0_2 : List (S41)) (a0_3 : Int) (a1_0 : ByteArray) (a1_1 : ByteArray) (l1_2 : List (S41)) (a1_3 : Int) : Option (Bool) := if a0_0.toList = a1_0.toList then (if a0_1.toList = a1_1.toList then (if a0_3 = a1_3 then (damperref2_SameRoute.j0 k ((l0_2.length : Int) != (l1_2.length : Int)) a0_0 a0_1 l0_2 a0_3 a1_0 a1_1 l1_2 a1_3) else (damperref2_SameRoute.j0 k true a0_0 a0_1 l0_2 a0_3 a1_0 a1_1 l1_2 a1_3)) else (damperref2_SameRoute.j0 k true a0_0 a0_1 l0_2 a0_3 a1_0 a1_1 l1_2 a1_3)) else (damperref2_SameRoute.j0 k true a0_0 a0_1 l0_2 a0_3 a1_0 a1_1 l1_2 a1_3)
theorem damperref2_SameRoute.mono_l : ∀ k, (∀ y0 y1 y2 y3 y4 y5 y6 y7 y8, LeO (damperref2_SameRoute.j0 k y0 y1 y2 y3 y4 y5 y6 y7 y8) (damperref2_SameRoute.j0 (k + 1) y0 y1 y2 y3 y4 y5 y6 y7 y8)) ∧ (∀ y0 y1 y2 y3 y4 y5 y6 y7 y8, LeO (damperref2_SameRoute.l0 k y0 y1 y2 y3 y4 y5 y6 y7 y8) (damperref2_SameRoute.l0 (k + 1) y0 y1 y2 y3 y4 y5 y6 y7 y8))
  | 0 => ⟨fun _ _ _ _ _ _ _ _ _ r h => by simp [damperref2_SameRoute.j0] at h, fun _ _ _ _ _ _ _ _ _ r h => by simp [damperref2_SameRoute.l0] at h⟩
  | k + 1 => by
    obtain ⟨ih0, ih1⟩ := damperref2_SameRoute.mono_l k
    refine ⟨?_, ?_⟩
    · intro y0 y1 y2 y3 y4 y5 y6 y7 y8
      unfold damperref2_SameRoute.j0
      repeat' first
      | (with_reducible exact ih0 _ _ _ _ _ _ _ _ _)
      | (with_reducible exact ih1 _ _ _ _ _ _ _ _ _)
      | (with_reducible exact LeO.refl _)
      | (with_reducible exact LeO.none _)
      | (with_reducible refine LeO.ite ?_ ?_)
      | (with_reducible refine LeO.bind ?_ (fun _ => ?_))
      | exact ih0 _ _ _ _ _ _ _ _ _
      | exact ih1 _ _ _ _ _ _ _ _ _
      | exact LeO.none _
      | refine LeO.ite ?_ ?_
      | refine LeO.bind ?_ (fun _ => ?_)
    · intro y0 y1 y2 y3 y4 y5 y6 y7 y8
      unfold damperref2_SameRoute.l0
      repeat' first
      | (with_reducible exact ih0 _ _ _ _ _ _ _ _ _)
      | (with_reducible exact ih1 _ _ _ _ _ _ _ _ _)
      | (with_reducible exact LeO.refl _)
      | (with_reducible exact LeO.none _)
      | (with_reducible refine LeO.ite ?_ ?_)
      | (with_reducible refine LeO.bind ?_ (fun _ => ?_))
      | exact ih0 _ _ _ _ _ _ _ _ _
      | exact ih1 _ _ _ _ _ _ _ _ _
      | exact LeO.none _
      | refine LeO.ite ?_ ?_
      | refine LeO.bind ?_ (fun _ => ?_)
theorem damperref2_SameRoute.mono : ∀ a0 a1 a2 a3 a4 a5 a6 a7 k, LeO (damperref2_SameRoute.f k a0 a1 a2 a3 a4 a5 a6 a7) (damperref2_SameRoute.f (k + 1) a0 a1 a2 a3 a4 a5 a6 a7) := by
  intro a0 a1 a2 a3 a4 a5 a6 a7 k
  obtain ⟨ih0, ih1⟩ := damperref2_SameRoute.mono_l k
  unfold damperref2_SameRoute.f
  repeat' first
      | (with_reducible exact ih0 _ _ _ _ _ _ _ _ _)
      | (with_reducible exact ih1 _ _ _ _ _ _ _ _ _)
      | (with_reducible exact LeO.refl _)
      | (with_reducible exact LeO.none _)
      | (with_reducible refine LeO.ite ?_ ?_)
      | (with_reducible refine LeO.bind ?_ (fun _ => ?_))
      | exact ih0 _ _ _ _ _ _ _ _ _
      | exact ih1 _ _ _ _ _ _ _ _ _
      | exact LeO.none _
      | refine LeO.ite ?_ ?_
      | refine LeO.bind ?_ (fun _ => ?_)
set_option maxHeartbeats 8000000 in
set_option maxRecDepth 100000 in
theorem damperref2_SameRoute.calls (k : Nat) (a0_0 : ByteArray) (a0_1 : ByteArray) (A0_2 : Option Addr) (c0_2 : Nat) (l0_2 : List (S41)) (a0_3 : Int) (a1_0 : ByteArray) (a1_1 : ByteArray) (A1_2 : Option Addr) (c1_2 : Nat) (l1_2 : List (S41)) (a1_3 : Int) (r : Bool) (w : World) (hr0_2 : Kd.C k41 w A0_2 l0_2.length l0_2) (hc0_2 : l0_2.length ≤ c0_2) (hr1_2 : Kd.C k41 w A1_2 l1_2.length l1_2) (hc1_2 : l1_2.length ≤ c1_2) (h : damperref2_SameRoute.f k a0_0 a0_1 l0_2 a0_3 a1_0 a1_1 l1_2 a1_3 = some r) :
    Calls Tryd.prog 23 #[.agg #[.string a0_0, .string a0_1, .slice A0_2 l0_2.length c0_2, .int .i64 a0_3], .agg #[.string a1_0, .string a1_1, .slice A1_2 l1_2.length c1_2, .int .i64 a1_3]] w fun e w' => e = .returned (.bool r) ∧ Below w.heap.size w w' := by
  have hu35 := Tryd.underlying35
  have hu41 := Tryd.underlying41
  have HR0_2 := Aside0.mk hr0_2
  have HC0_2 := Aside0.mk hc0_2
  clear hr0_2 hc0_2
  have HR1_2 := Aside0.mk hr1_2
  have HC1_2 := Aside0.mk hc1_2
  clear hr1_2 hc1_2
  have HB := Aside0.mk (Below.refl w.heap.size w)
  have H : (if a0_0.toList = a1_0.toList then (if a0_1.toList = a1_1.toList then (if a0_3 = a1_3 then (damperref2_SameRoute.j0 k ((l0_2.length : Int) != (l1_2.length : Int)) a0_0 a0_1 l0_2 a0_3 a1_0 a1_1 l1_2 a1_3) else (damperref2_SameRoute.j0 k true a0_0 a0_1 l0_2 a0_3 a1_0 a1_1 l1_2 a1_3)) else (damperref2_SameRoute.j0 k true a0_0 a0_1 l0_2 a0_3 a1_0 a1_1 l1_2 a1_3)) else (damperref2_SameRoute.j0 k true a0_0 a0_1 l0_2 a0_3 a1_0 a1_1 l1_2 a1_3)) = some r := h
  clear h
  have HC3 := Aside0.mk H
  clear H
  go_enter Tryd.func23, Tryd.ntmps23
  go_upto_region 1 with (first | ((with_reducible refine gate_dst (N := 2) rfl ?_); (try (refine gate_guard (by rfl) ?_; dsimp only)); refine box_event ?hg (N := 2) ?hd (cs := #[.string a0_0, .string a0_1, .slice A0_2 l0_2.length c0_2, .int .i64 a0_3]) (t := 35) ?hr ?_; (case hd => rfl); (case hg => rfl); (case hr => first | (go_simp; done) | (go_simp; rfl)); intro gb400 hg w4 hbox hb; have n0_ := Aside0.mk (below_step (by repeat (first | (with_reducible first | exact HB.out | apply below_alloc | apply pw_below_drewN | apply below_drew1) | exact HB.out)) hb); have n1_ := Aside0.mk (hbox); have n2_ := Aside0.mk ((by rw [hg]; exact (below_size (by repeat (first | (with_reducible first | exact HB.out | apply below_alloc | apply pw_below_drewN | apply below_drew1) | exact HB.out))) : w.heap.size ≤ gb400)); have n3_ := Aside0.mk ((by rw [hg]; exact (below_size (by repeat (first | (with_reducible first | exact HB.out | apply below_alloc | apply pw_below_drewN | apply below_drew1) | exact HB.out))) : w.heap.size ≤ gb400)); clear HB; have HB := n0_; have BK400 := n1_; have GW400 := n2_; have GE400 := n3_; clear n0_ n1_ n2_ n3_; clear hb hbox hg) | ((with_reducible refine gate_dst (N := 3) rfl ?_); (try (refine gate_guard (by rfl) ?_; dsimp only)); refine box_event ?hg (N := 3) ?hd (cs := #[.string a1_0, .string a1_1, .slice A1_2 l1_2.length c1_2, .int .i64 a1_3]) (t := 35) ?hr ?_; (case hd => rfl); (case hg => rfl); (case hr => first | (go_simp; done) | (go_simp; rfl)); intro gb401 hg w5 hbox hb; have n0_ := Aside0.mk (blk_below (g := gb400) (pk BK400) hb); have n1_ := Aside0.mk (below_step (by repeat (first | (with_reducible first | exact HB.out | apply below_alloc | apply pw_below_drewN | apply below_drew1 | refine below_set ?_ GE400.out) | exact HB.out)) hb); have n2_ := Aside0.mk (hbox); have n3_ := Aside0.mk ((by rw [hg]; exact (below_size (by repeat (first | (with_reducible first | exact HB.out | apply below_alloc | apply pw_below_drewN | apply below_drew1 | refine below_set ?_ GE400.out) | exact HB.out))) : w.heap.size ≤ gb401)); have n4_ := Aside0.mk ((by rw [hg]; exact (below_size (by repeat (first | (with_reducible first | exact HB.out | apply below_alloc | apply pw_below_drewN | apply below_drew1 | refine below_set ?_ GE400.out) | exact HB.out))) : w.heap.size ≤ gb401)); have n5_ := Aside0.mk ((ne_lt hg (pk BK400) : gb400 ≠ gb401)); have n6_ := Aside0.mk ((ne_gt hg (pk BK400) : gb401 ≠ gb400)); clear BK400; clear HB; have BK400 := n0_; have HB := n1_; have BK401 := n2_; have GW401 := n3_; have GE401 := n4_; have NB400_401 := n5_; have NB401_400 := n6_; clear n0_ n1_ n2_ n3_ n4_ n5_ n6_; clear hb hbox hg))
  repeat (go_quiet (first | ((with_reducible refine gate_dst (N := 2) rfl ?_); (try (refine gate_guard (by rfl) ?_; dsimp only)); refine box_event ?hg (N := 2) ?hd (cs := #[.string a0_0, .string a0_1, .slice A0_2 l0_2.length c0_2, .int .i64 a0_3]) (t := 35) ?hr ?_; (case hd => rfl); (case hg => rfl); (case hr => first | (go_simp; done) | (go_simp; rfl)); intro gb400 hg w4 hbox hb; have n0_ := Aside0.mk (below_step (by repeat (first | (with_reducible first | exact HB.out | apply below_alloc | apply pw_below_drewN | apply below_drew1) | exact HB.out)) hb); have n1_ := Aside0.mk (hbox); have n2_ := Aside0.mk ((by rw [hg]; exact (below_size (by repeat (first | (with_reducible first | exact HB.out | apply below_alloc | apply pw_below_drewN | apply below_drew1) | exact HB.out))) : w.heap.size ≤ gb400)); have n3_ := Aside0.mk ((by rw [hg]; exact (below_size (by repeat (first | (with_reducible first | exact HB.out | apply below_alloc | apply pw_below_drewN | apply below_drew1) | exact HB.out))) : w.heap.size ≤ gb400)); clear HB; have HB := n0_; have BK400 := n1_; have GW400 := n2_; have GE400 := n3_; clear n0_ n1_ n2_ n3_; clear hb hbox hg) | ((with_reducible refine gate_dst (N := 3) rfl ?_); (try (refine gate_guard (by rfl) ?_; dsimp only)); refine box_event ?hg (N := 3) ?hd (cs := #[.string a1_0, .string a1_1, .slice A1_2 l1_2.length c1_2, .int .i64 a1_3]) (t := 35) ?hr ?_; (case hd => rfl); (case hg => rfl); (case hr => first | (go_simp; done) | (go_simp; rfl)); intro gb401 hg w5 hbox hb; have n0_ := Aside0.mk (blk_below (g := gb400) (pk BK400) hb); have n1_ := Aside0.mk (below_step (by repeat (first | (with_reducible first | exact HB.out | apply below_alloc | apply pw_below_drewN | apply below_drew1 | refine below_set ?_ GE400.out) | exact HB.out)) hb); have n2_ := Aside0.mk (hbox); have n3_ := Aside0.mk ((by rw [hg]; exact (below_size (by repeat (first | (with_reducible first | exact HB.out | apply below_alloc | apply pw_below_drewN | apply below_drew1 | refine below_set ?_ GE400.out) | exact HB.out))) : w.heap.size ≤ gb401)); have n4_ := Aside0.mk ((by rw [hg]; exact (below_size (by repeat (first | (with_reducible first | exact HB.out | apply below_alloc | apply pw_below_drewN | apply below_drew1 | refine below_set ?_ GE400.out) | exact HB.out))) : w.heap.size ≤ gb401)); have n5_ := Aside0.mk ((ne_lt hg (pk BK400) : gb400 ≠ gb401)); have n6_ := Aside0.mk ((ne_gt hg (pk BK400) : gb401 ≠ gb400)); clear BK400; clear HB; have BK400 := n0_; have HB := n1_; have BK401 := n2_; have GW401 := n3_; have GE401 := n4_; have NB400_401 := n5_; have NB401_400 := n6_; clear n0_ n1_ n2_ n3_ n4_ n5_ n6_; clear hb hbox hg)); go_upto_region 1 with (first | ((with_reducible refine gate_dst (N := 2) rfl ?_); (try (refine gate_guard (by rfl) ?_; dsimp only)); refine box_event ?hg (N := 2) ?hd (cs := #[.string a0_0, .string a0_1, .slice A0_2 l0_2.length c0_2, .int .i64 a0_3]) (t := 35) ?hr ?_; (case hd => rfl); (case hg => rfl); (case hr => first | (go_simp; done) | (go_simp; rfl)); intro gb400 hg w4 hbox hb; have n0_ := Aside0.mk (below_step (by repeat (first | (with_reducible first | exact HB.out | apply below_alloc | apply pw_below_drewN | apply below_drew1) | exact HB.out)) hb); have n1_ := Aside0.mk (hbox); have n2_ := Aside0.mk ((by rw [hg]; exact (below_size (by repeat (first | (with_reducible first | exact HB.out | apply below_alloc | apply pw_below_drewN | apply below_drew1) | exact HB.out))) : w.heap.size ≤ gb400)); have n3_ := Aside0.mk ((by rw [hg]; exact (below_size (by repeat (first | (with_reducible first | exact HB.out | apply below_alloc | apply pw_below_drewN | apply below_drew1) | exact HB.out))) : w.heap.size ≤ gb400)); clear HB; have HB := n0_; have BK400 := n1_; have GW400 := n2_; have GE400 := n3_; clear n0_ n1_ n2_ n3_; clear hb hbox hg) | ((with_reducible refine gate_dst (N := 3) rfl ?_); (try (refine gate_guard (by rfl) ?_; dsimp only)); refine box_event ?hg (N := 3) ?hd (cs := #[.string a1_0, .string a1_1, .slice A1_2 l1_2.length c1_2, .int .i64 a1_3]) (t := 35) ?hr ?_; (case hd => rfl); (case hg => rfl); (case hr => first | (go_simp; done) | (go_simp; rfl)); intro gb401 hg w5 hbox hb; have n0_ := Aside0.mk (blk_below (g := gb400) (pk BK400) hb); have n1_ := Aside0.mk (below_step (by repeat (first | (with_reducible first | exact HB.out | apply below_alloc | apply pw_below_drewN | apply below_drew1 | refine below_set ?_ GE400.out) | exact HB.out)) hb); have n2_ := Aside0.mk (hbox); have n3_ := Aside0.mk ((by rw [hg]; exact (below_size (by repeat (first | (with_reducible first | exact HB.out | apply below_alloc | apply pw_below_drewN | apply below_drew1 | refine below_set ?_ GE400.out) | exact HB.out))) : w.heap.size ≤ gb401)); have n4_ := Aside0.mk ((by rw [hg]; exact (below_size (by repeat (first | (with_reducible first | exact HB.out | apply below_alloc | apply pw_below_drewN | apply below_drew1 | refine below_set ?_ GE400.out) | exact HB.out))) : w.heap.size ≤ gb401)); have n5_ := Aside0.mk ((ne_lt hg (pk BK400) : gb400 ≠ gb401)); have n6_ := Aside0.mk ((ne_gt hg (pk BK400) : gb401 ≠ gb400)); clear BK400; clear HB; have BK400 := n0_; have HB := n1_; have BK401 := n2_; have GW401 := n3_; have GE401 := n4_; have NB400_401 := n5_; have NB401_400 := n6_; clear n0_ n1_ n2_ n3_ n4_ n5_ n6_; clear hb hbox hg)))
  (try simp only [Act.put, List.setIfInBounds_toArray, List.set_cons_zero, List.set_cons_succ])
  go_cut [33] (fun v33 wc => ∃ (kq : Nat) (x33_2 : Bool), v33 = .bool x33_2 ∧ Aside0 (damperref2_SameRoute.j0 kq x33_2 a0_0 a0_1 l0_2 a0_3 a1_0 a1_1 l1_2 a1_3 = some r) ∧ Aside0 (kq ≤ k) ∧ Aside0 (wc.heap[gb400]? = some (.cells #[.string a0_0, .string a0_1, (.slice A0_2 l0_2.length c0_2), .int .i64 a0_3] 35 (0, 0))) ∧ Aside0 (wc.heap[gb401]? = some (.cells #[.string a1_0, .string a1_1, (.slice A1_2 l1_2.length c1_2), .int .i64 a1_3] 35 (0, 0))) ∧ Aside0 (Below w.heap.size w wc))
  case first =>
    have H := HC3.out
    clear HC3
    by_cases c6 : a0_0.toList = a1_0.toList
    · rw [if_pos c6] at H
      have c6b0 : (a0_0.toList == a1_0.toList) = true := beq_iff_eq.mpr c6
      have c6b1 : (a0_0.toList != a1_0.toList) = false := bne_eq_false_iff_eq.mpr c6
      clear c6
      (first | rw [c6b0] | (simp only [i64_w, i32_w]; rw [c6b0]) | rw [c6b1] | skip)
      by_cases c7 : a0_1.toList = a1_1.toList
      · rw [if_pos c7] at H
        have c7b0 : (a0_1.toList == a1_1.toList) = true := beq_iff_eq.mpr c7
        have c7b1 : (a0_1.toList != a1_1.toList) = false := bne_eq_false_iff_eq.mpr c7
        clear c7
        by_cases c8 : a0_3 = a1_3
        · rw [if_pos c8] at H
          have c8b0 : (a0_3 == a1_3) = true := beq_iff_eq.mpr c8
          have c8b1 : (a0_3 != a1_3) = false := bne_eq_false_iff_eq.mpr c8
          clear c8
          have H' := Aside0.mk H
          clear H
          have hnb9 := NB400_401.out
          have hnc9 := NB401_400.out
          have hcz10_0 : w5.cell? ⟨gb400, 0, none⟩ = some (.string a0_0) := bc BK400 0
          have hcz10_1 : w5.cell? ⟨gb400, 1, none⟩ = some (.string a0_1) := bc BK400 1
          have hcz10_2 : w5.cell? ⟨gb400, 2, none⟩ = some (.slice A0_2 l0_2.length c0_2) := bc BK400 2
          have hcz10_3 : w5.cell? ⟨gb400, 3, none⟩ = some (.int .i64 a0_3) := bc BK400 3
          have hfz10_0 := blk_frozen BK400.out 0
          have hfz10_1 := blk_frozen BK400.out 1
          have hfz10_2 := blk_frozen BK400.out 2
          have hfz10_3 := blk_frozen BK400.out 3
          have hcz11_0 : w5.cell? ⟨gb401, 0, none⟩ = some (.string a1_0) := bc BK401 0
          have hcz11_1 : w5.cell? ⟨gb401, 1, none⟩ = some (.string a1_1) := bc BK401 1
          have hcz11_2 : w5.cell? ⟨gb401, 2, none⟩ = some (.slice A1_2 l1_2.length c1_2) := bc BK401 2
          have hcz11_3 : w5.cell? ⟨gb401, 3, none⟩ = some (.int .i64 a1_3) := bc BK401 3
          have hfz11_0 := blk_frozen BK401.out 0
          have hfz11_1 := blk_frozen BK401.out 1
          have hfz11_2 := blk_frozen BK401.out 2
          have hfz11_3 := blk_frozen BK401.out 3
          go_wp2
          repeat (go_quiet (fail); try go_wp2)
          go_meet
          case rel => exact ⟨_, (((l0_2.length : Int) != (l1_2.length : Int))), (by first | rfl | (simp; done) | (simp [*]; done)), H', ⟨by first | omega | exact Nat.le_refl _⟩, ⟨by (with_reducible repeat (first | refine blk_drewN ?_ _ | refine blk_drew ?_ | refine blk_alloc ?_ _)); exact BK400.out⟩, ⟨by (with_reducible repeat (first | refine blk_drewN ?_ _ | refine blk_drew ?_ | refine blk_alloc ?_ _)); exact BK401.out⟩, ⟨by repeat (first | (with_reducible first | exact HB.out | apply below_alloc | apply pw_below_drewN | apply below_drew1 | refine below_set ?_ GE400.out | refine below_set ?_ GE401.out) | exact HB.out)⟩⟩
        · rw [if_neg c8] at H
          have c8b0 : (a0_3 == a1_3) = false := beq_eq_false_iff_ne.mpr c8
          have c8b1 : (a0_3 != a1_3) = true := bne_iff_ne.mpr c8
          have H' := Aside0.mk H
          clear H
          have hnb12 := NB400_401.out
          have hnc12 := NB401_400.out
          have hcz13_0 : w5.cell? ⟨gb400, 0, none⟩ = some (.string a0_0) := bc BK400 0
          have hcz13_1 : w5.cell? ⟨gb400, 1, none⟩ = some (.string a0_1) := bc BK400 1
          have hcz13_2 : w5.cell? ⟨gb400, 2, none⟩ = some (.slice A0_2 l0_2.length c0_2) := bc BK400 2
          have hcz13_3 : w5.cell? ⟨gb400, 3, none⟩ = some (.int .i64 a0_3) := bc BK400 3
          have hfz13_0 := blk_frozen BK400.out 0
          have hfz13_1 := blk_frozen BK400.out 1
          have hfz13_2 := blk_frozen BK400.out 2
          have hfz13_3 := blk_frozen BK400.out 3
          have hcz14_0 : w5.cell? ⟨gb401, 0, none⟩ = some (.string a1_0) := bc BK401 0
          have hcz14_1 : w5.cell? ⟨gb401, 1, none⟩ = some (.string a1_1) := bc BK401 1
          have hcz14_2 : w5.cell? ⟨gb401, 2, none⟩ = some (.slice A1_2 l1_2.length c1_2) := bc BK401 2
          have hcz14_3 : w5.cell? ⟨gb401, 3, none⟩ = some (.int .i64 a1_3) := bc BK401 3
          have hfz14_0 := blk_frozen BK401.out 0
          have hfz14_1 := blk_frozen BK401.out 1
          have hfz14_2 := blk_frozen BK401.out 2
          have hfz14_3 := blk_frozen BK401.out 3
          go_wp2
          repeat (go_quiet (fail); try go_wp2)
          go_meet
          case rel => exact ⟨_, (true), (by first | rfl | (simp; done) | (simp [*]; done)), H', ⟨by first | omega | exact Nat.le_refl _⟩, ⟨by (with_reducible repeat (first | refine blk_drewN ?_ _ | refine blk_drew ?_ | refine blk_alloc ?_ _)); exact BK400.out⟩, ⟨by (with_reducible repeat (first | refine blk_drewN ?_ _ | refine blk_drew ?_ | refine blk_alloc ?_ _)); exact BK401.out⟩, ⟨by repeat (first | (with_reducible first | exact HB.out | apply below_alloc | apply pw_below_drewN | apply below_drew1 | refine below_set ?_ GE400.out | refine below_set ?_ GE401.out) | exact HB.out)⟩⟩
      · rw [if_neg c7] at H
        have c7b0 : (a0_1.toList == a1_1.toList) = false := beq_eq_false_iff_ne.mpr c7
        have c7b1 : (a0_1.toList != a1_1.toList) = true := bne_iff_ne.mpr c7
        have H' := Aside0.mk H
        clear H
        have hnb15 := NB400_401.out
        have hnc15 := NB401_400.out
        have hcz16_0 : w5.cell? ⟨gb400, 0, none⟩ = some (.string a0_0) := bc BK400 0
        have hcz16_1 : w5.cell? ⟨gb400, 1, none⟩ = some (.string a0_1) := bc BK400 1
        have hcz16_2 : w5.cell? ⟨gb400, 2, none⟩ = some (.slice A0_2 l0_2.length c0_2) := bc BK400 2
        have hcz16_3 : w5.cell? ⟨gb400, 3, none⟩ = some (.int .i64 a0_3) := bc BK400 3
        have hfz16_0 := blk_frozen BK400.out 0
        have hfz16_1 := blk_frozen BK400.out 1
        have hfz16_2 := blk_frozen BK400.out 2
        have hfz16_3 := blk_frozen BK400.out 3
        have hcz17_0 : w5.cell? ⟨gb401, 0, none⟩ = some (.string a1_0) := bc BK401 0
        have hcz17_1 : w5.cell? ⟨gb401, 1, none⟩ = some (.string a1_1) := bc BK401 1
        have hcz17_2 : w5.cell? ⟨gb401, 2, none⟩ = some (.slice A1_2 l1_2.length c1_2) := bc BK401 2
        have hcz17_3 : w5.cell? ⟨gb401, 3, none⟩ = some (.int .i64 a1_3) := bc BK401 3
        have hfz17_0 := blk_frozen BK401.out 0
        have hfz17_1 := blk_frozen BK401.out 1
        have hfz17_2 := blk_frozen BK401.out 2
        have hfz17_3 := blk_frozen BK401.out 3
        go_wp2
        repeat (go_quiet (fail); try go_wp2)
        go_meet
        case rel => exact ⟨_, (true), (by first | rfl | (simp; done) | (simp [*]; done)), H', ⟨by first | omega | exact Nat.le_refl _⟩, ⟨by (with_reducible repeat (first | refine blk_drewN ?_ _ | refine blk_drew ?_ | refine blk_alloc ?_ _)); exact BK400.out⟩, ⟨by (with_reducible repeat (first | refine blk_drewN ?_ _ | refine blk_drew ?_ | refine blk_alloc ?_ _)); exact BK401.out⟩, ⟨by repeat (first | (with_reducible first | exact HB.out | apply below_alloc | apply pw_below_drewN | apply below_drew1 | refine below_set ?_ GE400.out | refine below_set ?_ GE401.out) | exact HB.out)⟩⟩
    · rw [if_neg c6] at H
      have c6b0 : (a0_0.toList == a1_0.toList) = false := beq_eq_false_iff_ne.mpr c6
      have c6b1 : (a0_0.toList != a1_0.toList) = true := bne_iff_ne.mpr c6
      (first | rw [c6b0] | (simp only [i64_w, i32_w]; rw [c6b0]) | rw [c6b1] | skip)
      have H' := Aside0.mk H
      clear H
      have hnb18 := NB400_401.out
      have hnc18 := NB401_400.out
      have hcz19_0 : w5.cell? ⟨gb400, 0, none⟩ = some (.string a0_0) := bc BK400 0
      have hcz19_1 : w5.cell? ⟨gb400, 1, none⟩ = some (.string a0_1) := bc BK400 1
      have hcz19_2 : w5.cell? ⟨gb400, 2, none⟩ = some (.slice A0_2 l0_2.length c0_2) := bc BK400 2
      have hcz19_3 : w5.cell? ⟨gb400, 3, none⟩ = some (.int .i64 a0_3) := bc BK400 3
      have hfz19_0 := blk_frozen BK400.out 0
      have hfz19_1 := blk_frozen BK400.out 1
      have hfz19_2 := blk_frozen BK400.out 2
      have hfz19_3 := blk_frozen BK400.out 3
      have hcz20_0 : w5.cell? ⟨gb401, 0, none⟩ = some (.string a1_0) := bc BK401 0
      have hcz20_1 : w5.cell? ⟨gb401, 1, none⟩ = some (.string a1_1) := bc BK401 1
      have hcz20_2 : w5.cell? ⟨gb401, 2, none⟩ = some (.slice A1_2 l1_2.length c1_2) := bc BK401 2
      have hcz20_3 : w5.cell? ⟨gb401, 3, none⟩ = some (.int .i64 a1_3) := bc BK401 3
      have hfz20_0 := blk_frozen BK401.out 0
      have hfz20_1 := blk_frozen BK401.out 1
      have hfz20_2 := blk_frozen BK401.out 2
      have hfz20_3 := blk_frozen BK401.out 3
      go_wp2
      repeat (go_quiet (fail); try go_wp2)
      go_meet
      case rel => exact ⟨_, (true), (by first | rfl | (simp; done) | (simp [*]; done)), H', ⟨by first | omega | exact Nat.le_refl _⟩, ⟨by (with_reducible repeat (first | refine blk_drewN ?_ _ | refine blk_drew ?_ | refine blk_alloc ?_ _)); exact BK400.out⟩, ⟨by (with_reducible repeat (first | refine blk_drewN ?_ _ | refine blk_drew ?_ | refine blk_alloc ?_ _)); exact BK401.out⟩, ⟨by repeat (first | (with_reducible first | exact HB.out | apply below_alloc | apply pw_below_drewN | apply below_drew1 | refine below_set ?_ GE400.out | refine below_set ?_ GE401.out) | exact HB.out)⟩⟩
  case rest =>
    clear HC3
    try clear c1
    try clear c2
    try clear p2
    try clear c6
    try clear c6b0
    try clear c6b1
    try clear c7
    try clear c7b0
    try clear c7b1
    try clear c8
    try clear c8b0
    try clear c8b1
    try clear c9
    try clear c12
    try clear c15
    try clear c18
    try clear hcz10_0
    try clear hcz10_1
    try clear hcz10_2
    try clear hcz10_3
    try clear hcz11_0
    try clear hcz11_1
    try clear hcz11_2
    try clear hcz11_3
    try clear hcz13_0
    try clear hcz13_1
    try clear hcz13_2
    try clear hcz13_3
    try clear hcz14_0
    try clear hcz14_1
    try clear hcz14_2
    try clear hcz14_3
    try clear hcz16_0
    try clear hcz16_1
    try clear hcz16_2
    try clear hcz16_3
    try clear hcz17_0
    try clear hcz17_1
    try clear hcz17_2
    try clear hcz17_3
    try clear hcz19_0
    try clear hcz19_1
    try clear hcz19_2
    try clear hcz19_3
    try clear hcz20_0
    try clear hcz20_1
    try clear hcz20_2
    try clear hcz20_3
    try clear hfz10_0
    try clear hfz10_1
    try clear hfz10_2
    try clear hfz10_3
    try clear hfz11_0
    try clear hfz11_1
    try clear hfz11_2
    try clear hfz11_3
    try clear hfz13_0
    try clear hfz13_1
    try clear hfz13_2
    try clear hfz13_3
    try clear hfz14_0
    try clear hfz14_1
    try clear hfz14_2
    try clear hfz14_3
    try clear hfz16_0
    try clear hfz16_1
    try clear hfz16_2
    try clear hfz16_3
    try clear hfz17_0
    try clear hfz17_1
    try clear hfz17_2
    try clear hfz17_3
    try clear hfz19_0
    try clear hfz19_1
    try clear hfz19_2
    try clear hfz19_3
    try clear hfz20_0
    try clear hfz20_1
    try clear hfz20_2
    try clear hfz20_3
    obtain ⟨kq, x33_2, rfl, HA, HJ2, BK400, BK401, HB⟩ := hcut
    cases kq with
    | zero => exact absurd HA.out (by simp [damperref2_SameRoute.j0])
    | succ kj2 =>
      have H := HA.out
      clear HA
      simp only [damperref2_SameRoute.j0] at H
      by_cases c21 : x33_2 = true
      · subst c21
        have H1 : (some false) = some r := by rw [if_pos rfl] at H; exact H
        clear H
        have H := H1
        clear H1
        obtain rfl := Option.some.inj H
        go_wp2
        repeat (go_quiet (fail); try go_wp2)
        go_ret
        exact ⟨by first | rfl | (simp [errW_none, errW_some] <;> rfl) | (simp [*, errW_none, errW_some] <;> rfl), by repeat (first | (with_reducible first | exact HB.out | apply below_alloc | apply pw_below_drewN | apply below_drew1 | refine below_set ?_ GE400.out | refine below_set ?_ GE401.out) | exact HB.out)⟩
      · replace c21 := Bool.eq_false_iff.mpr c21
        subst c21
        have H1 : (damperref2_SameRoute.l0 kj2 0 a0_0 a0_1 l0_2 a0_3 a1_0 a1_1 l1_2 a1_3) = some r := by rw [if_neg (show ¬ (false = true) by decide)] at H; exact H
        clear H
        have H := H1
        clear H1
        have H' := Aside0.mk H
        clear H
        go_wp2
        repeat (go_quiet (fail); try go_wp2)
        go_loopg [5] kj2 (fun kq v5 w' => ∃ (x5_2 : Int), v5 = .int .i64 x5_2 ∧ Aside0 (damperref2_SameRoute.l0 kq x5_2 a0_0 a0_1 l0_2 a0_3 a1_0 a1_1 l1_2 a1_3 = some r) ∧ Aside0 (kq ≤ kj2) ∧ Aside0 (w'.heap[gb400]? = some (.cells #[.string a0_0, .string a0_1, (.slice A0_2 l0_2.length c0_2), .int .i64 a0_3] 35 (0, 0))) ∧ Aside0 (w'.heap[gb401]? = some (.cells #[.string a1_0, .string a1_1, (.slice A1_2 l1_2.length c1_2), .int .i64 a1_3] 35 (0, 0))) ∧ Aside0 (Below w.heap.size w w'))
        case atStart => exact ⟨(0), (by first | rfl | (simp; done) | (simp [*]; done)), H', ⟨Nat.le_refl _⟩, ⟨by (with_reducible repeat (first | refine blk_drewN ?_ _ | refine blk_drew ?_ | refine blk_alloc ?_ _)); exact BK400.out⟩, ⟨by (with_reducible repeat (first | refine blk_drewN ?_ _ | refine blk_drew ?_ | refine blk_alloc ?_ _)); exact BK401.out⟩, ⟨by repeat (first | (with_reducible first | exact HB.out | apply below_alloc | apply pw_below_drewN | apply below_drew1 | refine below_set ?_ GE400.out | refine below_set ?_ GE401.out) | exact HB.out)⟩⟩
        case round =>
          clear H'
          try clear c1
          try clear c2
          try clear p2
          try clear c6
          try clear c6b0
          try clear c6b1
          try clear c7
          try clear c7b0
          try clear c7b1
          try clear c8
          try clear c8b0
          try clear c8b1
          try clear c9
          try clear c12
          try clear c15
          try clear c18
          try clear c21
          try clear hcz10_0
          try clear hcz10_1
          try clear hcz10_2
          try clear hcz10_3
          try clear hcz11_0
          try clear hcz11_1
          try clear hcz11_2
          try clear hcz11_3
          try clear hcz13_0
          try clear hcz13_1
          try clear hcz13_2
          try clear hcz13_3
          try clear hcz14_0
          try clear hcz14_1
          try clear hcz14_2
          try clear hcz14_3
          try clear hcz16_0
          try clear hcz16_1
          try clear hcz16_2
          try clear hcz16_3
          try clear hcz17_0
          try clear hcz17_1
          try clear hcz17_2
          try clear hcz17_3
          try clear hcz19_0
          try clear hcz19_1
          try clear hcz19_2
          try clear hcz19_3
          try clear hcz20_0
          try clear hcz20_1
          try clear hcz20_2
          try clear hcz20_3
          try clear hfz10_0
          try clear hfz10_1
          try clear hfz10_2
          try clear hfz10_3
          try clear hfz11_0
          try clear hfz11_1
          try clear hfz11_2
          try clear hfz11_3
          try clear hfz13_0
          try clear hfz13_1
          try clear hfz13_2
          try clear hfz13_3
          try clear hfz14_0
          try clear hfz14_1
          try clear hfz14_2
          try clear hfz14_3
          try clear hfz16_0
          try clear hfz16_1
          try clear hfz16_2
          try clear hfz16_3
          try clear hfz17_0
          try clear hfz17_1
          try clear hfz17_2
          try clear hfz17_3
          try clear hfz19_0
          try clear hfz19_1
          try clear hfz19_2
          try clear hfz19_3
          try clear hfz20_0
          try clear hfz20_1
          try clear hfz20_2
          try clear hfz20_3
          try clear p2
          obtain ⟨x5_2, rfl, HA, HK2, BK400, BK401, HB⟩ := hrel
          cases gk with
          | zero => exact absurd HA.out (by simp [damperref2_SameRoute.l0])
          | succ k2 =>
            have H := HA.out
            clear HA
            simp only [damperref2_SameRoute.l0] at H
            by_cases c22 : x5_2 < (l0_2.length : Int)
            · rw [if_pos c22] at H
              have c22b0 : decide (x5_2 < (l0_2.length : Int)) = true := decide_eq_true c22
              clear c22
              by_cases c23 : 0 ≤ x5_2
              rotate_left
              · rw [if_neg c23] at H
                exact absurd H (by simp)
              rw [if_pos c23] at H
              have c23b0 : decide (0 ≤ x5_2) = true := decide_eq_true c23
              clear c23
              by_cases c24 : x5_2 < (l1_2.length : Int)
              rotate_left
              · rw [if_neg c24] at H
                exact absurd H (by simp)
              rw [if_pos c24] at H
              have c24b0 : decide (x5_2 < (l1_2.length : Int)) = true := decide_eq_true c24
              clear c24
              by_cases c25 : (!((((rd_T41 l0_2 x5_2).f0).toList) == (((rd_T41 l1_2 x5_2).f0).toList)) || (!((((rd_T41 l0_2 x5_2).f1).toList) == (((rd_T41 l1_2 x5_2).f1).toList)) || (!(((rd_T41 l0_2 x5_2).f2) == ((rd_T41 l1_2 x5_2).f2))))) = true
              · rw [if_pos c25] at H
                have c25b0 : (!((((rd_T41 l0_2 x5_2).f0).toList) == (((rd_T41 l1_2 x5_2).f0).toList)) || (!((((rd_T41 l0_2 x5_2).f1).toList) == (((rd_T41 l1_2 x5_2).f1).toList)) || (!(((rd_T41 l0_2 x5_2).f2) == ((rd_T41 l1_2 x5_2).f2))))) = true := c25
                clear c25
                obtain rfl := Option.some.inj H
                have hnb26 := NB400_401.out
                have hnc26 := NB401_400.out
                have hcz27_0 : wr.cell? ⟨gb400, 0, none⟩ = some (.string a0_0) := bc BK400 0
                have hcz27_1 : wr.cell? ⟨gb400, 1, none⟩ = some (.string a0_1) := bc BK400 1
                have hcz27_2 : wr.cell? ⟨gb400, 2, none⟩ = some (.slice A0_2 l0_2.length c0_2) := bc BK400 2
                have hcz27_3 : wr.cell? ⟨gb400, 3, none⟩ = some (.int .i64 a0_3) := bc BK400 3
                have hfz27_0 := blk_frozen BK400.out 0
                have hfz27_1 := blk_frozen BK400.out 1
                have hfz27_2 := blk_frozen BK400.out 2
                have hfz27_3 := blk_frozen BK400.out 3
                have p402 : 0 ≤ (x5_2 : Int) := of_decide_eq_true (by first | (with_reducible assumption) | assumption)
                have q402 : x5_2 < (l0_2.length : Int) := of_decide_eq_true (by first | (with_reducible assumption) | assumption)
                obtain ⟨ad402, e402, hx402_0, hx402_1, hx402_2⟩ := at_T41 HR0_2.out x5_2 p402 q402
                cases e402
                replace hx402_0 := (HB.out.cell (World.block_lt_of_cell? w _ hx402_0)).trans hx402_0
                replace hx402_1 := (HB.out.cell (World.block_lt_of_cell? w _ hx402_1)).trans hx402_1
                replace hx402_2 := (HB.out.cell (World.block_lt_of_cell? w _ hx402_2)).trans hx402_2
                replace p402 := eq_true p402
                replace q402 := eq_true q402
                have hcz28_0 : wr.cell? ⟨gb401, 0, none⟩ = some (.string a1_0) := bc BK401 0
                have hcz28_1 : wr.cell? ⟨gb401, 1, none⟩ = some (.string a1_1) := bc BK401 1
                have hcz28_2 : wr.cell? ⟨gb401, 2, none⟩ = some (.slice A1_2 l1_2.length c1_2) := bc BK401 2
                have hcz28_3 : wr.cell? ⟨gb401, 3, none⟩ = some (.int .i64 a1_3) := bc BK401 3
                have hfz28_0 := blk_frozen BK401.out 0
                have hfz28_1 := blk_frozen BK401.out 1
                have hfz28_2 := blk_frozen BK401.out 2
                have hfz28_3 := blk_frozen BK401.out 3
                have p403 : 0 ≤ (x5_2 : Int) := of_decide_eq_true (by first | (with_reducible assumption) | assumption)
                have q403 : x5_2 < (l1_2.length : Int) := of_decide_eq_true (by first | (with_reducible assumption) | assumption)
                obtain ⟨ad403, e403, hx403_0, hx403_1, hx403_2⟩ := at_T41 HR1_2.out x5_2 p403 q403
                cases e403
                replace hx403_0 := (HB.out.cell (World.block_lt_of_cell? w _ hx403_0)).trans hx403_0
                replace hx403_1 := (HB.out.cell (World.block_lt_of_cell? w _ hx403_1)).trans hx403_1
                replace hx403_2 := (HB.out.cell (World.block_lt_of_cell? w _ hx403_2)).trans hx403_2
                replace p403 := eq_true p403
                replace q403 := eq_true q403
                go_wp2
                repeat (go_quiet (fail); try go_wp2)
                go_ret
                exact ⟨by first | rfl | (simp [errW_none, errW_some] <;> rfl) | (simp [*, errW_none, errW_some] <;> rfl), by repeat (first | (with_reducible first | exact HB.out | apply below_alloc | apply pw_below_drewN | apply below_drew1 | refine below_set ?_ GE400.out | refine below_set ?_ GE401.out) | exact HB.out)⟩
              · rw [if_neg c25] at H
                have c25b0 : (!((((rd_T41 l0_2 x5_2).f0).toList) == (((rd_T41 l1_2 x5_2).f0).toList)) || (!((((rd_T41 l0_2 x5_2).f1).toList) == (((rd_T41 l1_2 x5_2).f1).toList)) || (!(((rd_T41 l0_2 x5_2).f2) == ((rd_T41 l1_2 x5_2).f2))))) = false := by simpa using c25
                clear c25
                have H' := Aside0.mk H
                clear H
                have hnb29 := NB400_401.out
                have hnc29 := NB401_400.out
                have hcz30_0 : wr.cell? ⟨gb400, 0, none⟩ = some (.string a0_0) := bc BK400 0
                have hcz30_1 : wr.cell? ⟨gb400, 1, none⟩ = some (.string a0_1) := bc BK400 1
                have hcz30_2 : wr.cell? ⟨gb400, 2, none⟩ = some (.slice A0_2 l0_2.length c0_2) := bc BK400 2
                have hcz30_3 : wr.cell? ⟨gb400, 3, none⟩ = some (.int .i64 a0_3) := bc BK400 3
                have hfz30_0 := blk_frozen BK400.out 0
                have hfz30_1 := blk_frozen BK400.out 1
                have hfz30_2 := blk_frozen BK400.out 2
                have hfz30_3 := blk_frozen BK400.out 3
                have p402 : 0 ≤ (x5_2 : Int) := of_decide_eq_true (by first | (with_reducible assumption) | assumption)
                have q402 : x5_2 < (l0_2.length : Int) := of_decide_eq_true (by first | (with_reducible assumption) | assumption)
                obtain ⟨ad402, e402, hx402_0, hx402_1, hx402_2⟩ := at_T41 HR0_2.out x5_2 p402 q402
                cases e402
                replace hx402_0 := (HB.out.cell (World.block_lt_of_cell? w _ hx402_0)).trans hx402_0
                replace hx402_1 := (HB.out.cell (World.block_lt_of_cell? w _ hx402_1)).trans hx402_1
                replace hx402_2 := (HB.out.cell (World.block_lt_of_cell? w _ hx402_2)).trans hx402_2
                replace p402 := eq_true p402
                replace q402 := eq_true q402
                have hcz31_0 : wr.cell? ⟨gb401, 0, none⟩ = some (.string a1_0) := bc BK401 0
                have hcz31_1 : wr.cell? ⟨gb401, 1, none⟩ = some (.string a1_1) := bc BK401 1
                have hcz31_2 : wr.cell? ⟨gb401, 2, none⟩ = some (.slice A1_2 l1_2.length c1_2) := bc BK401 2
                have hcz31_3 : wr.cell? ⟨gb401, 3, none⟩ = some (.int .i64 a1_3) := bc BK401 3
                have hfz31_0 := blk_frozen BK401.out 0
                have hfz31_1 := blk_frozen BK401.out 1
                have hfz31_2 := blk_frozen BK401.out 2
                have hfz31_3 := blk_frozen BK401.out 3
                have p403 : 0 ≤ (x5_2 : Int) := of_decide_eq_true (by first | (with_reducible assumption) | assumption)
                have q403 : x5_2 < (l1_2.length : Int) := of_decide_eq_true (by first | (with_reducible assumption) | assumption)
                obtain ⟨ad403, e403, hx403_0, hx403_1, hx403_2⟩ := at_T41 HR1_2.out x5_2 p403 q403
                cases e403
                replace hx403_0 := (HB.out.cell (World.block_lt_of_cell? w _ hx403_0)).trans hx403_0
                replace hx403_1 := (HB.out.cell (World.block_lt_of_cell? w _ hx403_1)).trans hx403_1
                replace hx403_2 := (HB.out.cell (World.block_lt_of_cell? w _ hx403_2)).trans hx403_2
                replace p403 := eq_true p403
                replace q403 := eq_true q403
                go_wp2
                repeat (go_quiet (fail); try go_wp2)
                go_roundg k2
                case measure => have := HJ2.out; have := HK2.out; omega
                case rel => exact ⟨(wrap64 (x5_2 + 1)), (by first | rfl | (simp; done) | (simp [*]; done)), H', ⟨by have := HJ2.out; have := HK2.out; omega⟩, ⟨by (with_reducible repeat (first | refine blk_drewN ?_ _ | refine blk_drew ?_ | refine blk_alloc ?_ _)); exact BK400.out⟩, ⟨by (with_reducible repeat (first | refine blk_drewN ?_ _ | refine blk_drew ?_ | refine blk_alloc ?_ _)); exact BK401.out⟩, ⟨by repeat (first | (with_reducible first | exact HB.out | apply below_alloc | apply pw_below_drewN | apply below_drew1 | refine below_set ?_ GE400.out | refine below_set ?_ GE401.out) | exact HB.out)⟩⟩
            · rw [if_neg c22] at H
              have c22b0 : decide (x5_2 < (l0_2.length : Int)) = false := decide_eq_false c22
              clear c22
              obtain rfl := Option.some.inj H
              have hnb32 := NB400_401.out
              have hnc32 := NB401_400.out
              have hcz33_0 : wr.cell? ⟨gb400, 0, none⟩ = some (.string a0_0) := bc BK400 0
              have hcz33_1 : wr.cell? ⟨gb400, 1, none⟩ = some (.string a0_1) := bc BK400 1
              have hcz33_2 : wr.cell? ⟨gb400, 2, none⟩ = some (.slice A0_2 l0_2.length c0_2) := bc BK400 2
              have hcz33_3 : wr.cell? ⟨gb400, 3, none⟩ = some (.int .i64 a0_3) := bc BK400 3
              have hfz33_0 := blk_frozen BK400.out 0
              have hfz33_1 := blk_frozen BK400.out 1
              have hfz33_2 := blk_frozen BK400.out 2
              have hfz33_3 := blk_frozen BK400.out 3
              go_wp2
              repeat (go_quiet (fail); try go_wp2)
              go_ret
              exact ⟨by first | rfl | (simp [errW_none, errW_some] <;> rfl) | (simp [*, errW_none, errW_some] <;> rfl), by repeat (first | (with_reducible first | exact HB.out | apply below_alloc | apply pw_below_drewN | apply below_drew1 | refine below_set ?_ GE400.out | refine below_set ?_ GE401.out) | exact HB.out)⟩

end Go.Proofs.YthdpnbfjpbiieaaDoor.Ma
