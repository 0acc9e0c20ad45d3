-- Written by a program of this session (wip/tools/myprint.py), in the form of the kit's print. Not trusted: Lean checks it.
import Derived.Test.YthdpnbfjpbiieaaDoorMax0
import Derived.Test.YthdpnbfjpbiieaaDoorMax15
import Derived.Test.YthdpnbfjpbiieaaDoorMax22
namespace Go.Proofs.YthdpnbfjpbiieaaDoor.Ma
open Go.RowKit Go.Proofs.YthdpnbfjpbiieaaDoorW.PrintWords Go.Proofs.YthdpnbfjpbiieaaDoorW.PrintLast Go.Proofs.YthdpnbfjpbiieaaDoorW.PrintMore
attribute [local go_sem] max2_int min2_int max_two min_two max_three min_three max_four min_four   -- for this text's walks alone
set_option linter.unusedVariables false
set_option linter.unusedSimpArgs false

/-! ### damperref2_Route: function 20 -/
mutual
def damperref2_Route.j0 : Nat → Bool → ByteArray → ByteArray → List (S41) → Int → Option (Int)
  | 0, _, _, _, _, _ => none
  | k + 1, x8, x245000, x245001, x245002, x245003 => if x8 = true then (some 1) else (if x245003 < 0 then (damperref2_Route.j1 k true x245000 x245001 x245002 x245003) else (damperref2_Route.j1 k (decide (x245003 > 60)) x245000 x245001 x245002 x245003))
def damperref2_Route.j1 : Nat → Bool → ByteArray → ByteArray → List (S41) → Int → Option (Int)
  | 0, _, _, _, _, _ => none
  | k + 1, x19, x245000, x245001, x245002, x245003 => if x19 = true then (some 2) else (if (x245002.length : Int) < 1 then (some 3) else (if (x245002.length : Int) > 6 then (some 3) else (damperref2_Route.l0 k 0 x245000 x245001 x245002 x245003)))
def damperref2_Route.l0 : Nat → Int → ByteArray → ByteArray → List (S41) → Int → Option (Int)
  | 0, _, _, _, _, _ => none
  | k + 1, x3, x245000, x245001, x245002, x245003 => if x3 < (x245002.length : Int) then (if 0 ≤ x3 then (if ((rd_T41 x245002 x3).f0).toList = ([] : List UInt8) then (if ((rd_T41 x245002 x3).f1).toList = ([] : List UInt8) then (damperref2_Route.j3 k x3 false x245000 x245001 x245002 x245003 ((rd_T41 x245002 x3).f0) ((rd_T41 x245002 x3).f1) ((rd_T41 x245002 x3).f2)) else ((damperref1_Tag.f k ((rd_T41 x245002 x3).f1)).bind fun t249 => (damperref2_Route.j3 k x3 (!t249) x245000 x245001 x245002 x245003 ((rd_T41 x245002 x3).f0) ((rd_T41 x245002 x3).f1) ((rd_T41 x245002 x3).f2)))) else ((damperref2_revision.f k ((rd_T41 x245002 x3).f0)).bind fun t250 => (if t250 = true then (if ((rd_T41 x245002 x3).f1).toList = ([] : List UInt8) then (damperref2_Route.j3 k x3 false x245000 x245001 x245002 x245003 ((rd_T41 x245002 x3).f0) ((rd_T41 x245002 x3).f1) ((rd_T41 x245002 x3).f2)) else ((damperref1_Tag.f k ((rd_T41 x245002 x3).f1)).bind fun t251 => (damperref2_Route.j3 k x3 (!t251) x245000 x245001 x245002 x245003 ((rd_T41 x245002 x3).f0) ((rd_T41 x245002 x3).f1) ((rd_T41 x245002 x3).f2)))) else (damperref2_Route.j3 k x3 true x245000 x245001 x245002 x245003 ((rd_T41 x245002 x3).f0) ((rd_T41 x245002 x3).f1) ((rd_T41 x245002 x3).f2))))) else (none)) else (damperref2_Route.l1 k 0 0 x245000 x245001 x245002 x245003)
def damperref2_Route.j3 : Nat → Int → Bool → ByteArray → ByteArray → List (S41) → Int → ByteArray → ByteArray → Int → Option (Int)
  | 0, _, _, _, _, _, _, _, _, _ => none
  | k + 1, x3, x70, x245000, x245001, x245002, x245003, x249000, x249001, x249002 => if x70 = true then (some 1) else (if x249002 < 0 then (some 2) else (if x249002 > 100 then (some 2) else (damperref2_Route.l0 k (wrap64 (x3 + 1)) x245000 x245001 x245002 x245003)))
def damperref2_Route.l1 : Nat → Int → Int → ByteArray → ByteArray → List (S41) → Int → Option (Int)
  | 0, _, _, _, _, _, _ => none
  | k + 1, x5, x6, x245000, x245001, x245002, x245003 => if x6 < (x245002.length : Int) then (if 0 ≤ x6 then (damperref2_Route.l2 k (wrap64 (x5 + ((rd_T41 x245002 x6).f2))) x6 0 x245000 x245001 x245002 x245003) else (none)) else (if x5 = 100 then (some 0) else (some 4))
def damperref2_Route.l2 : Nat → Int → Int → Int → ByteArray → ByteArray → List (S41) → Int → Option (Int)
  | 0, _, _, _, _, _, _, _ => none
  | k + 1, x5, x6, x7, x245000, x245001, x245002, x245003 => if x7 < x6 then (if 0 ≤ x6 then (if x6 < (x245002.length : Int) then (if ((rd_T41 x245002 x6).f1).toList = ([] : List UInt8) then (damperref2_Route.l2 k x5 x6 (wrap64 (x7 + 1)) x245000 x245001 x245002 x245003) else (if 0 ≤ x7 then (if x7 < (x245002.length : Int) then (if ((rd_T41 x245002 x6).f1).toList = ((rd_T41 x245002 x7).f1).toList then (some 5) else (damperref2_Route.l2 k x5 x6 (wrap64 (x7 + 1)) x245000 x245001 x245002 x245003)) else (none)) else (none))) else (none)) else (none)) else (damperref2_Route.l1 k x5 (wrap64 (x6 + 1)) x245000 x245001 x245002 x245003)
end
def damperref2_Route.f (k : Nat) (a0_0 : ByteArray) (a0_1 : ByteArray) (l0_2 : List (S41)) (a0_3 : Int) : Option (Int) := (damperref1_Name.f k a0_0).bind fun t245 => (if t245 = true then ((damperref1_Name.f k a0_1).bind fun t246 => (damperref2_Route.j0 k (!t246) a0_0 a0_1 l0_2 a0_3)) else (damperref2_Route.j0 k true a0_0 a0_1 l0_2 a0_3))
theorem damperref2_Route.mono_l : ∀ k, (∀ y0 y1 y2 y3 y4, LeO (damperref2_Route.j0 k y0 y1 y2 y3 y4) (damperref2_Route.j0 (k + 1) y0 y1 y2 y3 y4)) ∧ (∀ y0 y1 y2 y3 y4, LeO (damperref2_Route.j1 k y0 y1 y2 y3 y4) (damperref2_Route.j1 (k + 1) y0 y1 y2 y3 y4)) ∧ (∀ y0 y1 y2 y3 y4, LeO (damperref2_Route.l0 k y0 y1 y2 y3 y4) (damperref2_Route.l0 (k + 1) y0 y1 y2 y3 y4)) ∧ (∀ y0 y1 y2 y3 y4 y5 y6 y7 y8, LeO (damperref2_Route.j3 k y0 y1 y2 y3 y4 y5 y6 y7 y8) (damperref2_Route.j3 (k + 1) y0 y1 y2 y3 y4 y5 y6 y7 y8)) ∧ (∀ y0 y1 y2 y3 y4 y5, LeO (damperref2_Route.l1 k y0 y1 y2 y3 y4 y5) (damperref2_Route.l1 (k + 1) y0 y1 y2 y3 y4 y5)) ∧ (∀ y0 y1 y2 y3 y4 y5 y6, LeO (damperref2_Route.l2 k y0 y1 y2 y3 y4 y5 y6) (damperref2_Route.l2 (k + 1) y0 y1 y2 y3 y4 y5 y6))
  | 0 => ⟨fun _ _ _ _ _ r h => by simp [damperref2_Route.j0] at h, fun _ _ _ _ _ r h => by simp [damperref2_Route.j1] at h, fun _ _ _ _ _ r h => by simp [damperref2_Route.l0] at h, fun _ _ _ _ _ _ _ _ _ r h => by simp [damperref2_Route.j3] at h, fun _ _ _ _ _ _ r h => by simp [damperref2_Route.l1] at h, fun _ _ _ _ _ _ _ r h => by simp [damperref2_Route.l2] at h⟩
  | k + 1 => by
    obtain ⟨ih0, ih1, ih2, ih3, ih4, ih5⟩ := damperref2_Route.mono_l k
    refine ⟨?_, ?_, ?_, ?_, ?_, ?_⟩
    · intro y0 y1 y2 y3 y4
      unfold damperref2_Route.j0
      repeat' first
      | (with_reducible exact ih0 _ _ _ _ _)
      | (with_reducible exact ih1 _ _ _ _ _)
      | (with_reducible exact ih2 _ _ _ _ _)
      | (with_reducible exact ih3 _ _ _ _ _ _ _ _ _)
      | (with_reducible exact ih4 _ _ _ _ _ _)
      | (with_reducible exact ih5 _ _ _ _ _ _ _)
      | (with_reducible exact damperref1_Name.mono _ _)
      | (with_reducible exact damperref1_Tag.mono _ _)
      | (with_reducible exact damperref2_revision.mono _ _)
      | (with_reducible exact LeO.refl _)
      | (with_reducible exact LeO.none _)
      | (with_reducible refine LeO.ite ?_ ?_)
      | (with_reducible refine LeO.bind ?_ (fun _ => ?_))
      | exact ih0 _ _ _ _ _
      | exact ih1 _ _ _ _ _
      | exact ih2 _ _ _ _ _
      | exact ih3 _ _ _ _ _ _ _ _ _
      | exact ih4 _ _ _ _ _ _
      | exact ih5 _ _ _ _ _ _ _
      | exact damperref1_Name.mono _ _
      | exact damperref1_Tag.mono _ _
      | exact damperref2_revision.mono _ _
      | exact LeO.none _
      | refine LeO.ite ?_ ?_
      | refine LeO.bind ?_ (fun _ => ?_)
    · intro y0 y1 y2 y3 y4
      unfold damperref2_Route.j1
      repeat' first
      | (with_reducible exact ih0 _ _ _ _ _)
      | (with_reducible exact ih1 _ _ _ _ _)
      | (with_reducible exact ih2 _ _ _ _ _)
      | (with_reducible exact ih3 _ _ _ _ _ _ _ _ _)
      | (with_reducible exact ih4 _ _ _ _ _ _)
      | (with_reducible exact ih5 _ _ _ _ _ _ _)
      | (with_reducible exact damperref1_Name.mono _ _)
      | (with_reducible exact damperref1_Tag.mono _ _)
      | (with_reducible exact damperref2_revision.mono _ _)
      | (with_reducible exact LeO.refl _)
      | (with_reducible exact LeO.none _)
      | (with_reducible refine LeO.ite ?_ ?_)
      | (with_reducible refine LeO.bind ?_ (fun _ => ?_))
      | exact ih0 _ _ _ _ _
      | exact ih1 _ _ _ _ _
      | exact ih2 _ _ _ _ _
      | exact ih3 _ _ _ _ _ _ _ _ _
      | exact ih4 _ _ _ _ _ _
      | exact ih5 _ _ _ _ _ _ _
      | exact damperref1_Name.mono _ _
      | exact damperref1_Tag.mono _ _
      | exact damperref2_revision.mono _ _
      | exact LeO.none _
      | refine LeO.ite ?_ ?_
      | refine LeO.bind ?_ (fun _ => ?_)
    · intro y0 y1 y2 y3 y4
      unfold damperref2_Route.l0
      repeat' first
      | (with_reducible exact ih0 _ _ _ _ _)
      | (with_reducible exact ih1 _ _ _ _ _)
      | (with_reducible exact ih2 _ _ _ _ _)
      | (with_reducible exact ih3 _ _ _ _ _ _ _ _ _)
      | (with_reducible exact ih4 _ _ _ _ _ _)
      | (with_reducible exact ih5 _ _ _ _ _ _ _)
      | (with_reducible exact damperref1_Name.mono _ _)
      | (with_reducible exact damperref1_Tag.mono _ _)
      | (with_reducible exact damperref2_revision.mono _ _)
      | (with_reducible exact LeO.refl _)
      | (with_reducible exact LeO.none _)
      | (with_reducible refine LeO.ite ?_ ?_)
      | (with_reducible refine LeO.bind ?_ (fun _ => ?_))
      | exact ih0 _ _ _ _ _
      | exact ih1 _ _ _ _ _
      | exact ih2 _ _ _ _ _
      | exact ih3 _ _ _ _ _ _ _ _ _
      | exact ih4 _ _ _ _ _ _
      | exact ih5 _ _ _ _ _ _ _
      | exact damperref1_Name.mono _ _
      | exact damperref1_Tag.mono _ _
      | exact damperref2_revision.mono _ _
      | exact LeO.none _
      | refine LeO.ite ?_ ?_
      | refine LeO.bind ?_ (fun _ => ?_)
    · intro y0 y1 y2 y3 y4 y5 y6 y7 y8
      unfold damperref2_Route.j3
      repeat' first
      | (with_reducible exact ih0 _ _ _ _ _)
      | (with_reducible exact ih1 _ _ _ _ _)
      | (with_reducible exact ih2 _ _ _ _ _)
      | (with_reducible exact ih3 _ _ _ _ _ _ _ _ _)
      | (with_reducible exact ih4 _ _ _ _ _ _)
      | (with_reducible exact ih5 _ _ _ _ _ _ _)
      | (with_reducible exact damperref1_Name.mono _ _)
      | (with_reducible exact damperref1_Tag.mono _ _)
      | (with_reducible exact damperref2_revision.mono _ _)
      | (with_reducible exact LeO.refl _)
      | (with_reducible exact LeO.none _)
      | (with_reducible refine LeO.ite ?_ ?_)
      | (with_reducible refine LeO.bind ?_ (fun _ => ?_))
      | exact ih0 _ _ _ _ _
      | exact ih1 _ _ _ _ _
      | exact ih2 _ _ _ _ _
      | exact ih3 _ _ _ _ _ _ _ _ _
      | exact ih4 _ _ _ _ _ _
      | exact ih5 _ _ _ _ _ _ _
      | exact damperref1_Name.mono _ _
      | exact damperref1_Tag.mono _ _
      | exact damperref2_revision.mono _ _
      | exact LeO.none _
      | refine LeO.ite ?_ ?_
      | refine LeO.bind ?_ (fun _ => ?_)
    · intro y0 y1 y2 y3 y4 y5
      unfold damperref2_Route.l1
      repeat' first
      | (with_reducible exact ih0 _ _ _ _ _)
      | (with_reducible exact ih1 _ _ _ _ _)
      | (with_reducible exact ih2 _ _ _ _ _)
      | (with_reducible exact ih3 _ _ _ _ _ _ _ _ _)
      | (with_reducible exact ih4 _ _ _ _ _ _)
      | (with_reducible exact ih5 _ _ _ _ _ _ _)
      | (with_reducible exact damperref1_Name.mono _ _)
      | (with_reducible exact damperref1_Tag.mono _ _)
      | (with_reducible exact damperref2_revision.mono _ _)
      | (with_reducible exact LeO.refl _)
      | (with_reducible exact LeO.none _)
      | (with_reducible refine LeO.ite ?_ ?_)
      | (with_reducible refine LeO.bind ?_ (fun _ => ?_))
      | exact ih0 _ _ _ _ _
      | exact ih1 _ _ _ _ _
      | exact ih2 _ _ _ _ _
      | exact ih3 _ _ _ _ _ _ _ _ _
      | exact ih4 _ _ _ _ _ _
      | exact ih5 _ _ _ _ _ _ _
      | exact damperref1_Name.mono _ _
      | exact damperref1_Tag.mono _ _
      | exact damperref2_revision.mono _ _
      | exact LeO.none _
      | refine LeO.ite ?_ ?_
      | refine LeO.bind ?_ (fun _ => ?_)
    · intro y0 y1 y2 y3 y4 y5 y6
      unfold damperref2_Route.l2
      repeat' first
      | (with_reducible exact ih0 _ _ _ _ _)
      | (with_reducible exact ih1 _ _ _ _ _)
      | (with_reducible exact ih2 _ _ _ _ _)
      | (with_reducible exact ih3 _ _ _ _ _ _ _ _ _)
      | (with_reducible exact ih4 _ _ _ _ _ _)
      | (with_reducible exact ih5 _ _ _ _ _ _ _)
      | (with_reducible exact damperref1_Name.mono _ _)
      | (with_reducible exact damperref1_Tag.mono _ _)
      | (with_reducible exact damperref2_revision.mono _ _)
      | (with_reducible exact LeO.refl _)
      | (with_reducible exact LeO.none _)
      | (with_reducible refine LeO.ite ?_ ?_)
      | (with_reducible refine LeO.bind ?_ (fun _ => ?_))
      | exact ih0 _ _ _ _ _
      | exact ih1 _ _ _ _ _
      | exact ih2 _ _ _ _ _
      | exact ih3 _ _ _ _ _ _ _ _ _
      | exact ih4 _ _ _ _ _ _
      | exact ih5 _ _ _ _ _ _ _
      | exact damperref1_Name.mono _ _
      | exact damperref1_Tag.mono _ _
      | exact damperref2_revision.mono _ _
      | exact LeO.none _
      | refine LeO.ite ?_ ?_
      | refine LeO.bind ?_ (fun _ => ?_)
theorem damperref2_Route.mono : ∀ a0 a1 a2 a3 k, LeO (damperref2_Route.f k a0 a1 a2 a3) (damperref2_Route.f (k + 1) a0 a1 a2 a3) := by
  intro a0 a1 a2 a3 k
  obtain ⟨ih0, ih1, ih2, ih3, ih4, ih5⟩ := damperref2_Route.mono_l k
  unfold damperref2_Route.f
  repeat' first
      | (with_reducible exact ih0 _ _ _ _ _)
      | (with_reducible exact ih1 _ _ _ _ _)
      | (with_reducible exact ih2 _ _ _ _ _)
      | (with_reducible exact ih3 _ _ _ _ _ _ _ _ _)
      | (with_reducible exact ih4 _ _ _ _ _ _)
      | (with_reducible exact ih5 _ _ _ _ _ _ _)
      | (with_reducible exact damperref1_Name.mono _ _)
      | (with_reducible exact damperref1_Tag.mono _ _)
      | (with_reducible exact damperref2_revision.mono _ _)
      | (with_reducible exact LeO.refl _)
      | (with_reducible exact LeO.none _)
      | (with_reducible refine LeO.ite ?_ ?_)
      | (with_reducible refine LeO.bind ?_ (fun _ => ?_))
      | exact ih0 _ _ _ _ _
      | exact ih1 _ _ _ _ _
      | exact ih2 _ _ _ _ _
      | exact ih3 _ _ _ _ _ _ _ _ _
      | exact ih4 _ _ _ _ _ _
      | exact ih5 _ _ _ _ _ _ _
      | exact damperref1_Name.mono _ _
      | exact damperref1_Tag.mono _ _
      | exact damperref2_revision.mono _ _
      | exact LeO.none _
      | refine LeO.ite ?_ ?_
      | refine LeO.bind ?_ (fun _ => ?_)
set_option maxHeartbeats 8000000 in
set_option maxRecDepth 100000 in
theorem damperref2_Route.calls (k : Nat) (a0_0 : ByteArray) (a0_1 : ByteArray) (A0_2 : Option Addr) (c0_2 : Nat) (l0_2 : List (S41)) (a0_3 : Int) (r : Int) (w : World) (hr0_2 : Kd.C k41 w A0_2 l0_2.length l0_2) (hc0_2 : l0_2.length ≤ c0_2) (h : damperref2_Route.f k a0_0 a0_1 l0_2 a0_3 = some r) :
    Calls Tryd.prog 20 #[.agg #[.string a0_0, .string a0_1, .slice A0_2 l0_2.length c0_2, .int .i64 a0_3]] w fun e w' => e = .returned (.int .i64 r) ∧ Below w.heap.size w w' := by
  have hu35 := Tryd.underlying35
  have hu41 := Tryd.underlying41
  have HR0_2 := Aside0.mk hr0_2
  have HC0_2 := Aside0.mk hc0_2
  clear hr0_2 hc0_2
  have HB := Aside0.mk (Below.refl w.heap.size w)
  have H : ((damperref1_Name.f k a0_0).bind fun t245 => (if t245 = true then ((damperref1_Name.f k a0_1).bind fun t246 => (damperref2_Route.j0 k (!t246) a0_0 a0_1 l0_2 a0_3)) else (damperref2_Route.j0 k true a0_0 a0_1 l0_2 a0_3))) = some r := h
  clear h
  have HC2 := Aside0.mk H
  clear H
  go_enter Tryd.func20, Tryd.ntmps20
  go_upto_region 1 with (first | ((with_reducible refine gate_dst (N := 1) rfl ?_); (try (refine gate_guard (by rfl) ?_; dsimp only)); refine box_event ?hg (N := 1) ?hd (cs := #[.string a0_0, .string a0_1, .slice A0_2 l0_2.length c0_2, .int .i64 a0_3]) (t := 35) ?hr ?_; (case hd => rfl); (case hg => rfl); (case hr => first | (go_simp; done) | (go_simp; rfl)); intro gb244 hg w3 hbox hb; have n0_ := Aside0.mk (below_step (by repeat (first | (with_reducible first | exact HB.out | apply below_alloc | apply pw_below_drewN | apply below_drew1) | exact HB.out)) hb); have n1_ := Aside0.mk (hbox); have n2_ := Aside0.mk ((by rw [hg]; exact (below_size (by repeat (first | (with_reducible first | exact HB.out | apply below_alloc | apply pw_below_drewN | apply below_drew1) | exact HB.out))) : w.heap.size ≤ gb244)); have n3_ := Aside0.mk ((by rw [hg]; exact (below_size (by repeat (first | (with_reducible first | exact HB.out | apply below_alloc | apply pw_below_drewN | apply below_drew1) | exact HB.out))) : w.heap.size ≤ gb244)); clear HB; have HB := n0_; have BK244 := n1_; have GW244 := n2_; have GE244 := n3_; clear n0_ n1_ n2_ n3_; clear hb hbox hg))
  repeat (go_quiet (first | ((with_reducible refine gate_dst (N := 1) rfl ?_); (try (refine gate_guard (by rfl) ?_; dsimp only)); refine box_event ?hg (N := 1) ?hd (cs := #[.string a0_0, .string a0_1, .slice A0_2 l0_2.length c0_2, .int .i64 a0_3]) (t := 35) ?hr ?_; (case hd => rfl); (case hg => rfl); (case hr => first | (go_simp; done) | (go_simp; rfl)); intro gb244 hg w3 hbox hb; have n0_ := Aside0.mk (below_step (by repeat (first | (with_reducible first | exact HB.out | apply below_alloc | apply pw_below_drewN | apply below_drew1) | exact HB.out)) hb); have n1_ := Aside0.mk (hbox); have n2_ := Aside0.mk ((by rw [hg]; exact (below_size (by repeat (first | (with_reducible first | exact HB.out | apply below_alloc | apply pw_below_drewN | apply below_drew1) | exact HB.out))) : w.heap.size ≤ gb244)); have n3_ := Aside0.mk ((by rw [hg]; exact (below_size (by repeat (first | (with_reducible first | exact HB.out | apply below_alloc | apply pw_below_drewN | apply below_drew1) | exact HB.out))) : w.heap.size ≤ gb244)); clear HB; have HB := n0_; have BK244 := n1_; have GW244 := n2_; have GE244 := n3_; clear n0_ n1_ n2_ n3_; clear hb hbox hg)); go_upto_region 1 with (first | ((with_reducible refine gate_dst (N := 1) rfl ?_); (try (refine gate_guard (by rfl) ?_; dsimp only)); refine box_event ?hg (N := 1) ?hd (cs := #[.string a0_0, .string a0_1, .slice A0_2 l0_2.length c0_2, .int .i64 a0_3]) (t := 35) ?hr ?_; (case hd => rfl); (case hg => rfl); (case hr => first | (go_simp; done) | (go_simp; rfl)); intro gb244 hg w3 hbox hb; have n0_ := Aside0.mk (below_step (by repeat (first | (with_reducible first | exact HB.out | apply below_alloc | apply pw_below_drewN | apply below_drew1) | exact HB.out)) hb); have n1_ := Aside0.mk (hbox); have n2_ := Aside0.mk ((by rw [hg]; exact (below_size (by repeat (first | (with_reducible first | exact HB.out | apply below_alloc | apply pw_below_drewN | apply below_drew1) | exact HB.out))) : w.heap.size ≤ gb244)); have n3_ := Aside0.mk ((by rw [hg]; exact (below_size (by repeat (first | (with_reducible first | exact HB.out | apply below_alloc | apply pw_below_drewN | apply below_drew1) | exact HB.out))) : w.heap.size ≤ gb244)); clear HB; have HB := n0_; have BK244 := n1_; have GW244 := n2_; have GE244 := n3_; clear n0_ n1_ n2_ n3_; clear hb hbox hg)))
  (try simp only [Act.put, List.setIfInBounds_toArray, List.set_cons_zero, List.set_cons_succ])
  go_cut [8] (fun v8 wc => ∃ (kq : Nat) (x8_1 : Bool), v8 = .bool x8_1 ∧ Aside0 (damperref2_Route.j0 kq x8_1 a0_0 a0_1 l0_2 a0_3 = some r) ∧ Aside0 (kq ≤ k) ∧ Aside0 (wc.heap[gb244]? = some (.cells #[.string a0_0, .string a0_1, (.slice A0_2 l0_2.length c0_2), .int .i64 a0_3] 35 (0, 0))) ∧ Aside0 (Below w.heap.size w wc))
  case first =>
    have H := HC2.out
    clear HC2
    replace H := Option.bind_eq_some_iff.mp H
    obtain ⟨t245, A40, H⟩ := H
    replace H : (if t245 = true then ((damperref1_Name.f k a0_1).bind fun t246 => (damperref2_Route.j0 k (!t246) a0_0 a0_1 l0_2 a0_3)) else (damperref2_Route.j0 k true a0_0 a0_1 l0_2 a0_3)) = some r := H
    have A4 := Aside0.mk A40
    clear A40
    by_cases c5 : t245 = true
    · subst c5
      have H1 : ((damperref1_Name.f k a0_1).bind fun t246 => (damperref2_Route.j0 k (!t246) a0_0 a0_1 l0_2 a0_3)) = some r := by rw [if_pos rfl] at H; exact H
      clear H
      have H := H1
      clear H1
      replace H := Option.bind_eq_some_iff.mp H
      obtain ⟨t246, A60, H⟩ := H
      replace H : (damperref2_Route.j0 k (!t246) a0_0 a0_1 l0_2 a0_3) = some r := H
      have A6 := Aside0.mk A60
      clear A60
      have H' := Aside0.mk H
      clear H
      have hcz7_0 : w3.cell? ⟨gb244, 0, none⟩ = some (.string a0_0) := bc BK244 0
      have hcz7_1 : w3.cell? ⟨gb244, 1, none⟩ = some (.string a0_1) := bc BK244 1
      have hcz7_2 : w3.cell? ⟨gb244, 2, none⟩ = some (.slice A0_2 l0_2.length c0_2) := bc BK244 2
      have hcz7_3 : w3.cell? ⟨gb244, 3, none⟩ = some (.int .i64 a0_3) := bc BK244 3
      have hfz7_0 := blk_frozen BK244.out 0
      have hfz7_1 := blk_frozen BK244.out 1
      have hfz7_2 := blk_frozen BK244.out 2
      have hfz7_3 := blk_frozen BK244.out 3
      go_wp2_with (first | (go_at_call 26; (with_reducible refine (damperref1_Name.calls k a0_0 true _ A4.out).mono ?_); rintro e w' ⟨rfl, ⟨nd, rfl⟩⟩; (try first | exact ⟨rfl, _, World.drewN_drewN _ _ _⟩ | exact ⟨rfl, _, Eq.trans (World.drewN_drewN _ _ _) (congrArg (World.drewN _) (Nat.add_assoc _ _ _))⟩)) | (go_at_call 26; (with_reducible refine (damperref1_Name.calls k a0_1 t246 _ A6.out).mono ?_); rintro e w' ⟨rfl, ⟨nd, rfl⟩⟩; (try first | exact ⟨rfl, _, World.drewN_drewN _ _ _⟩ | exact ⟨rfl, _, Eq.trans (World.drewN_drewN _ _ _) (congrArg (World.drewN _) (Nat.add_assoc _ _ _))⟩)))
      repeat (go_quiet (first | (go_at_call 26; (with_reducible refine (damperref1_Name.calls k a0_0 true _ A4.out).mono ?_); rintro e w' ⟨rfl, ⟨nd, rfl⟩⟩; (try first | exact ⟨rfl, _, World.drewN_drewN _ _ _⟩ | exact ⟨rfl, _, Eq.trans (World.drewN_drewN _ _ _) (congrArg (World.drewN _) (Nat.add_assoc _ _ _))⟩)) | (go_at_call 26; (with_reducible refine (damperref1_Name.calls k a0_1 t246 _ A6.out).mono ?_); rintro e w' ⟨rfl, ⟨nd, rfl⟩⟩; (try first | exact ⟨rfl, _, World.drewN_drewN _ _ _⟩ | exact ⟨rfl, _, Eq.trans (World.drewN_drewN _ _ _) (congrArg (World.drewN _) (Nat.add_assoc _ _ _))⟩))); try go_wp2_with (first | (go_at_call 26; (with_reducible refine (damperref1_Name.calls k a0_0 true _ A4.out).mono ?_); rintro e w' ⟨rfl, ⟨nd, rfl⟩⟩; (try first | exact ⟨rfl, _, World.drewN_drewN _ _ _⟩ | exact ⟨rfl, _, Eq.trans (World.drewN_drewN _ _ _) (congrArg (World.drewN _) (Nat.add_assoc _ _ _))⟩)) | (go_at_call 26; (with_reducible refine (damperref1_Name.calls k a0_1 t246 _ A6.out).mono ?_); rintro e w' ⟨rfl, ⟨nd, rfl⟩⟩; (try first | exact ⟨rfl, _, World.drewN_drewN _ _ _⟩ | exact ⟨rfl, _, Eq.trans (World.drewN_drewN _ _ _) (congrArg (World.drewN _) (Nat.add_assoc _ _ _))⟩))))
      go_meet
      case rel => exact ⟨_, (!t246), (by first | rfl | (simp; done) | (simp [*]; done)), H', ⟨by first | omega | exact Nat.le_refl _⟩, ⟨by (with_reducible repeat (first | refine blk_drewN ?_ _ | refine blk_drew ?_ | refine blk_alloc ?_ _)); exact BK244.out⟩, ⟨by repeat (first | (with_reducible first | exact HB.out | apply below_alloc | apply pw_below_drewN | apply below_drew1 | refine below_set ?_ GE244.out) | exact HB.out)⟩⟩
    · replace c5 := Bool.eq_false_iff.mpr c5
      subst c5
      have H1 : (damperref2_Route.j0 k true a0_0 a0_1 l0_2 a0_3) = some r := by rw [if_neg (show ¬ (false = true) by decide)] at H; exact H
      clear H
      have H := H1
      clear H1
      have H' := Aside0.mk H
      clear H
      have hcz8_0 : w3.cell? ⟨gb244, 0, none⟩ = some (.string a0_0) := bc BK244 0
      have hcz8_1 : w3.cell? ⟨gb244, 1, none⟩ = some (.string a0_1) := bc BK244 1
      have hcz8_2 : w3.cell? ⟨gb244, 2, none⟩ = some (.slice A0_2 l0_2.length c0_2) := bc BK244 2
      have hcz8_3 : w3.cell? ⟨gb244, 3, none⟩ = some (.int .i64 a0_3) := bc BK244 3
      have hfz8_0 := blk_frozen BK244.out 0
      have hfz8_1 := blk_frozen BK244.out 1
      have hfz8_2 := blk_frozen BK244.out 2
      have hfz8_3 := blk_frozen BK244.out 3
      go_wp2_with (first | (go_at_call 26; (with_reducible refine (damperref1_Name.calls k a0_0 false _ A4.out).mono ?_); rintro e w' ⟨rfl, ⟨nd, rfl⟩⟩; (try first | exact ⟨rfl, _, World.drewN_drewN _ _ _⟩ | exact ⟨rfl, _, Eq.trans (World.drewN_drewN _ _ _) (congrArg (World.drewN _) (Nat.add_assoc _ _ _))⟩)))
      repeat (go_quiet (first | (go_at_call 26; (with_reducible refine (damperref1_Name.calls k a0_0 false _ A4.out).mono ?_); rintro e w' ⟨rfl, ⟨nd, rfl⟩⟩; (try first | exact ⟨rfl, _, World.drewN_drewN _ _ _⟩ | exact ⟨rfl, _, Eq.trans (World.drewN_drewN _ _ _) (congrArg (World.drewN _) (Nat.add_assoc _ _ _))⟩))); try go_wp2_with (first | (go_at_call 26; (with_reducible refine (damperref1_Name.calls k a0_0 false _ A4.out).mono ?_); rintro e w' ⟨rfl, ⟨nd, rfl⟩⟩; (try first | exact ⟨rfl, _, World.drewN_drewN _ _ _⟩ | exact ⟨rfl, _, Eq.trans (World.drewN_drewN _ _ _) (congrArg (World.drewN _) (Nat.add_assoc _ _ _))⟩))))
      go_meet
      case rel => exact ⟨_, (true), (by first | rfl | (simp; done) | (simp [*]; done)), H', ⟨by first | omega | exact Nat.le_refl _⟩, ⟨by (with_reducible repeat (first | refine blk_drewN ?_ _ | refine blk_drew ?_ | refine blk_alloc ?_ _)); exact BK244.out⟩, ⟨by repeat (first | (with_reducible first | exact HB.out | apply below_alloc | apply pw_below_drewN | apply below_drew1 | refine below_set ?_ GE244.out) | exact HB.out)⟩⟩
  case rest =>
    clear HC2
    try clear c2
    try clear p2
    try clear c5
    try clear hcz7_0
    try clear hcz7_1
    try clear hcz7_2
    try clear hcz7_3
    try clear hcz8_0
    try clear hcz8_1
    try clear hcz8_2
    try clear hcz8_3
    try clear hfz7_0
    try clear hfz7_1
    try clear hfz7_2
    try clear hfz7_3
    try clear hfz8_0
    try clear hfz8_1
    try clear hfz8_2
    try clear hfz8_3
    obtain ⟨kq, x8_1, rfl, HA, HJ1, BK244, HB⟩ := hcut
    cases kq with
    | zero => exact absurd HA.out (by simp [damperref2_Route.j0])
    | succ kj1 =>
      have H := HA.out
      clear HA
      simp only [damperref2_Route.j0] at H
      by_cases c9 : x8_1 = true
      · subst c9
        have H1 : (some 1) = some r := by rw [if_pos rfl] at H; exact H
        clear H
        have H := H1
        clear H1
        obtain rfl := Option.some.inj H
        go_wp2
        repeat (go_quiet (fail); try go_wp2)
        go_ret
        exact ⟨by first | rfl | (simp [errW_none, errW_some] <;> rfl) | (simp [*, errW_none, errW_some] <;> rfl), by repeat (first | (with_reducible first | exact HB.out | apply below_alloc | apply pw_below_drewN | apply below_drew1 | refine below_set ?_ GE244.out) | exact HB.out)⟩
      · replace c9 := Bool.eq_false_iff.mpr c9
        subst c9
        have H1 : (if a0_3 < 0 then (damperref2_Route.j1 kj1 true a0_0 a0_1 l0_2 a0_3) else (damperref2_Route.j1 kj1 (decide (a0_3 > 60)) a0_0 a0_1 l0_2 a0_3)) = some r := by rw [if_neg (show ¬ (false = true) by decide)] at H; exact H
        clear H
        have H := H1
        clear H1
        have HC10 := Aside0.mk H
        clear H
        go_upto_region 3 with (fail)
        repeat (go_quiet (fail); go_upto_region 3 with (fail))
        go_cut [19] (fun v19 wc => ∃ (kq : Nat) (x19_9 : Bool), v19 = .bool x19_9 ∧ Aside0 (damperref2_Route.j1 kq x19_9 a0_0 a0_1 l0_2 a0_3 = some r) ∧ Aside0 (kq ≤ kj1) ∧ Aside0 (wc.heap[gb244]? = some (.cells #[.string a0_0, .string a0_1, (.slice A0_2 l0_2.length c0_2), .int .i64 a0_3] 35 (0, 0))) ∧ Aside0 (Below w.heap.size w wc))
        case first =>
          have H := HC10.out
          clear HC10
          by_cases c11 : a0_3 < 0
          · rw [if_pos c11] at H
            have c11b0 : decide (a0_3 < 0) = true := decide_eq_true c11
            clear c11
            (first | rw [c11b0] | (simp only [i64_w, i32_w]; rw [c11b0]) | rw [c11b1] | skip)
            have H' := Aside0.mk H
            clear H
            have hcz12_0 : wc.cell? ⟨gb244, 0, none⟩ = some (.string a0_0) := bc BK244 0
            have hcz12_1 : wc.cell? ⟨gb244, 1, none⟩ = some (.string a0_1) := bc BK244 1
            have hcz12_2 : wc.cell? ⟨gb244, 2, none⟩ = some (.slice A0_2 l0_2.length c0_2) := bc BK244 2
            have hcz12_3 : wc.cell? ⟨gb244, 3, none⟩ = some (.int .i64 a0_3) := bc BK244 3
            have hfz12_0 := blk_frozen BK244.out 0
            have hfz12_1 := blk_frozen BK244.out 1
            have hfz12_2 := blk_frozen BK244.out 2
            have hfz12_3 := blk_frozen BK244.out 3
            go_wp2
            repeat (go_quiet (fail); try go_wp2)
            go_meet
            case rel => exact ⟨_, (true), (by first | rfl | (simp; done) | (simp [*]; done)), H', ⟨by have := HJ1.out; first | omega | exact Nat.le_refl _⟩, ⟨by (with_reducible repeat (first | refine blk_drewN ?_ _ | refine blk_drew ?_ | refine blk_alloc ?_ _)); exact BK244.out⟩, ⟨by repeat (first | (with_reducible first | exact HB.out | apply below_alloc | apply pw_below_drewN | apply below_drew1 | refine below_set ?_ GE244.out) | exact HB.out)⟩⟩
          · rw [if_neg c11] at H
            have c11b0 : decide (a0_3 < 0) = false := decide_eq_false c11
            clear c11
            (first | rw [c11b0] | (simp only [i64_w, i32_w]; rw [c11b0]) | rw [c11b1] | skip)
            have H' := Aside0.mk H
            clear H
            have hcz13_0 : wc.cell? ⟨gb244, 0, none⟩ = some (.string a0_0) := bc BK244 0
            have hcz13_1 : wc.cell? ⟨gb244, 1, none⟩ = some (.string a0_1) := bc BK244 1
            have hcz13_2 : wc.cell? ⟨gb244, 2, none⟩ = some (.slice A0_2 l0_2.length c0_2) := bc BK244 2
            have hcz13_3 : wc.cell? ⟨gb244, 3, none⟩ = some (.int .i64 a0_3) := bc BK244 3
            have hfz13_0 := blk_frozen BK244.out 0
            have hfz13_1 := blk_frozen BK244.out 1
            have hfz13_2 := blk_frozen BK244.out 2
            have hfz13_3 := blk_frozen BK244.out 3
            go_wp2
            repeat (go_quiet (fail); try go_wp2)
            go_meet
            case rel => exact ⟨_, (decide (a0_3 > 60)), (by first | rfl | (simp; done) | (simp [*]; done)), H', ⟨by have := HJ1.out; first | omega | exact Nat.le_refl _⟩, ⟨by (with_reducible repeat (first | refine blk_drewN ?_ _ | refine blk_drew ?_ | refine blk_alloc ?_ _)); exact BK244.out⟩, ⟨by repeat (first | (with_reducible first | exact HB.out | apply below_alloc | apply pw_below_drewN | apply below_drew1 | refine below_set ?_ GE244.out) | exact HB.out)⟩⟩
        case rest =>
          clear HC10
          try clear c1
          try clear c2
          try clear p2
          try clear c5
          try clear c9
          try clear c11
          try clear c11b0
          try clear c11b1
          try clear hcz12_0
          try clear hcz12_1
          try clear hcz12_2
          try clear hcz12_3
          try clear hcz13_0
          try clear hcz13_1
          try clear hcz13_2
          try clear hcz13_3
          try clear hcz7_0
          try clear hcz7_1
          try clear hcz7_2
          try clear hcz7_3
          try clear hcz8_0
          try clear hcz8_1
          try clear hcz8_2
          try clear hcz8_3
          try clear hfz12_0
          try clear hfz12_1
          try clear hfz12_2
          try clear hfz12_3
          try clear hfz13_0
          try clear hfz13_1
          try clear hfz13_2
          try clear hfz13_3
          try clear hfz7_0
          try clear hfz7_1
          try clear hfz7_2
          try clear hfz7_3
          try clear hfz8_0
          try clear hfz8_1
          try clear hfz8_2
          try clear hfz8_3
          try clear p2
          obtain ⟨kq, x19_9, rfl, HA, HJ9, BK244, HB⟩ := hcut
          cases kq with
          | zero => exact absurd HA.out (by simp [damperref2_Route.j1])
          | succ kj9 =>
            have H := HA.out
            clear HA
            simp only [damperref2_Route.j1] at H
            by_cases c14 : x19_9 = true
            · subst c14
              have H1 : (some 2) = some r := by rw [if_pos rfl] at H; exact H
              clear H
              have H := H1
              clear H1
              obtain rfl := Option.some.inj H
              go_wp2
              repeat (go_quiet (fail); try go_wp2)
              go_ret
              exact ⟨by first | rfl | (simp [errW_none, errW_some] <;> rfl) | (simp [*, errW_none, errW_some] <;> rfl), by repeat (first | (with_reducible first | exact HB.out | apply below_alloc | apply pw_below_drewN | apply below_drew1 | refine below_set ?_ GE244.out) | exact HB.out)⟩
            · replace c14 := Bool.eq_false_iff.mpr c14
              subst c14
              have H1 : (if (l0_2.length : Int) < 1 then (some 3) else (if (l0_2.length : Int) > 6 then (some 3) else (damperref2_Route.l0 kj9 0 a0_0 a0_1 l0_2 a0_3))) = some r := by rw [if_neg (show ¬ (false = true) by decide)] at H; exact H
              clear H
              have H := H1
              clear H1
              by_cases c15 : (l0_2.length : Int) < 1
              · rw [if_pos c15] at H
                have c15b0 : decide ((l0_2.length : Int) < 1) = true := decide_eq_true c15
                have c15b1 : decide (l0_2.length < 1) = true := decide_eq_true (by omega)
                clear c15
                obtain rfl := Option.some.inj H
                have hcz16_0 : wc.cell? ⟨gb244, 0, none⟩ = some (.string a0_0) := bc BK244 0
                have hcz16_1 : wc.cell? ⟨gb244, 1, none⟩ = some (.string a0_1) := bc BK244 1
                have hcz16_2 : wc.cell? ⟨gb244, 2, none⟩ = some (.slice A0_2 l0_2.length c0_2) := bc BK244 2
                have hcz16_3 : wc.cell? ⟨gb244, 3, none⟩ = some (.int .i64 a0_3) := bc BK244 3
                have hfz16_0 := blk_frozen BK244.out 0
                have hfz16_1 := blk_frozen BK244.out 1
                have hfz16_2 := blk_frozen BK244.out 2
                have hfz16_3 := blk_frozen BK244.out 3
                go_wp2
                repeat (go_quiet (fail); try go_wp2)
                go_ret
                exact ⟨by first | rfl | (simp [errW_none, errW_some] <;> rfl) | (simp [*, errW_none, errW_some] <;> rfl), by repeat (first | (with_reducible first | exact HB.out | apply below_alloc | apply pw_below_drewN | apply below_drew1 | refine below_set ?_ GE244.out) | exact HB.out)⟩
              · rw [if_neg c15] at H
                have c15b0 : decide ((l0_2.length : Int) < 1) = false := decide_eq_false c15
                have c15b1 : decide (l0_2.length < 1) = false := decide_eq_false (by omega)
                clear c15
                by_cases c17 : (l0_2.length : Int) > 6
                · rw [if_pos c17] at H
                  have c17b0 : decide (6 < (l0_2.length : Int)) = true := decide_eq_true c17
                  have c17b1 : decide (6 < l0_2.length) = true := decide_eq_true (by omega)
                  clear c17
                  obtain rfl := Option.some.inj H
                  have hcz18_0 : wc.cell? ⟨gb244, 0, none⟩ = some (.string a0_0) := bc BK244 0
                  have hcz18_1 : wc.cell? ⟨gb244, 1, none⟩ = some (.string a0_1) := bc BK244 1
                  have hcz18_2 : wc.cell? ⟨gb244, 2, none⟩ = some (.slice A0_2 l0_2.length c0_2) := bc BK244 2
                  have hcz18_3 : wc.cell? ⟨gb244, 3, none⟩ = some (.int .i64 a0_3) := bc BK244 3
                  have hfz18_0 := blk_frozen BK244.out 0
                  have hfz18_1 := blk_frozen BK244.out 1
                  have hfz18_2 := blk_frozen BK244.out 2
                  have hfz18_3 := blk_frozen BK244.out 3
                  go_wp2
                  repeat (go_quiet (fail); try go_wp2)
                  go_ret
                  exact ⟨by first | rfl | (simp [errW_none, errW_some] <;> rfl) | (simp [*, errW_none, errW_some] <;> rfl), by repeat (first | (with_reducible first | exact HB.out | apply below_alloc | apply pw_below_drewN | apply below_drew1 | refine below_set ?_ GE244.out) | exact HB.out)⟩
                · rw [if_neg c17] at H
                  have c17b0 : decide (6 < (l0_2.length : Int)) = false := decide_eq_false c17
                  have c17b1 : decide (6 < l0_2.length) = false := decide_eq_false (by omega)
                  clear c17
                  have H' := Aside0.mk H
                  clear H
                  have hcz19_0 : wc.cell? ⟨gb244, 0, none⟩ = some (.string a0_0) := bc BK244 0
                  have hcz19_1 : wc.cell? ⟨gb244, 1, none⟩ = some (.string a0_1) := bc BK244 1
                  have hcz19_2 : wc.cell? ⟨gb244, 2, none⟩ = some (.slice A0_2 l0_2.length c0_2) := bc BK244 2
                  have hcz19_3 : wc.cell? ⟨gb244, 3, none⟩ = some (.int .i64 a0_3) := bc BK244 3
                  have hfz19_0 := blk_frozen BK244.out 0
                  have hfz19_1 := blk_frozen BK244.out 1
                  have hfz19_2 := blk_frozen BK244.out 2
                  have hfz19_3 := blk_frozen BK244.out 3
                  go_wp2
                  repeat (go_quiet (fail); try go_wp2)
                  go_loopg [3] kj9 (fun kq v3 w' => ∃ (x3_3 : Int), v3 = .int .i64 x3_3 ∧ Aside0 (damperref2_Route.l0 kq x3_3 a0_0 a0_1 l0_2 a0_3 = some r) ∧ Aside0 (kq ≤ kj9) ∧ Aside0 (w'.heap[gb244]? = some (.cells #[.string a0_0, .string a0_1, (.slice A0_2 l0_2.length c0_2), .int .i64 a0_3] 35 (0, 0))) ∧ Aside0 (Below w.heap.size w w'))
                  case atStart => exact ⟨(0), (by first | rfl | (simp; done) | (simp [*]; done)), H', ⟨Nat.le_refl _⟩, ⟨by (with_reducible repeat (first | refine blk_drewN ?_ _ | refine blk_drew ?_ | refine blk_alloc ?_ _)); exact BK244.out⟩, ⟨by repeat (first | (with_reducible first | exact HB.out | apply below_alloc | apply pw_below_drewN | apply below_drew1 | refine below_set ?_ GE244.out) | exact HB.out)⟩⟩
                  case round =>
                    clear H'
                    try clear c1
                    try clear c2
                    try clear p2
                    try clear c5
                    try clear c9
                    try clear c11
                    try clear c11b0
                    try clear c11b1
                    try clear c14
                    try clear c15
                    try clear c15b0
                    try clear c15b1
                    try clear c17
                    try clear c17b0
                    try clear c17b1
                    try clear hcz12_0
                    try clear hcz12_1
                    try clear hcz12_2
                    try clear hcz12_3
                    try clear hcz13_0
                    try clear hcz13_1
                    try clear hcz13_2
                    try clear hcz13_3
                    try clear hcz16_0
                    try clear hcz16_1
                    try clear hcz16_2
                    try clear hcz16_3
                    try clear hcz18_0
                    try clear hcz18_1
                    try clear hcz18_2
                    try clear hcz18_3
                    try clear hcz19_0
                    try clear hcz19_1
                    try clear hcz19_2
                    try clear hcz19_3
                    try clear hcz7_0
                    try clear hcz7_1
                    try clear hcz7_2
                    try clear hcz7_3
                    try clear hcz8_0
                    try clear hcz8_1
                    try clear hcz8_2
                    try clear hcz8_3
                    try clear hfz12_0
                    try clear hfz12_1
                    try clear hfz12_2
                    try clear hfz12_3
                    try clear hfz13_0
                    try clear hfz13_1
                    try clear hfz13_2
                    try clear hfz13_3
                    try clear hfz16_0
                    try clear hfz16_1
                    try clear hfz16_2
                    try clear hfz16_3
                    try clear hfz18_0
                    try clear hfz18_1
                    try clear hfz18_2
                    try clear hfz18_3
                    try clear hfz19_0
                    try clear hfz19_1
                    try clear hfz19_2
                    try clear hfz19_3
                    try clear hfz7_0
                    try clear hfz7_1
                    try clear hfz7_2
                    try clear hfz7_3
                    try clear hfz8_0
                    try clear hfz8_1
                    try clear hfz8_2
                    try clear hfz8_3
                    try clear p2
                    obtain ⟨x3_3, rfl, HA, HK3, BK244, HB⟩ := hrel
                    cases gk with
                    | zero => exact absurd HA.out (by simp [damperref2_Route.l0])
                    | succ k3 =>
                      have H := HA.out
                      clear HA
                      simp only [damperref2_Route.l0] at H
                      by_cases c20 : x3_3 < (l0_2.length : Int)
                      · rw [if_pos c20] at H
                        have c20b0 : decide (x3_3 < (l0_2.length : Int)) = true := decide_eq_true c20
                        clear c20
                        by_cases c21 : 0 ≤ x3_3
                        rotate_left
                        · rw [if_neg c21] at H
                          exact absurd H (by simp)
                        rw [if_pos c21] at H
                        have c21b0 : decide (0 ≤ x3_3) = true := decide_eq_true c21
                        clear c21
                        have HC22 := Aside0.mk H
                        clear H
                        have hcz23_0 : wr.cell? ⟨gb244, 0, none⟩ = some (.string a0_0) := bc BK244 0
                        have hcz23_1 : wr.cell? ⟨gb244, 1, none⟩ = some (.string a0_1) := bc BK244 1
                        have hcz23_2 : wr.cell? ⟨gb244, 2, none⟩ = some (.slice A0_2 l0_2.length c0_2) := bc BK244 2
                        have hcz23_3 : wr.cell? ⟨gb244, 3, none⟩ = some (.int .i64 a0_3) := bc BK244 3
                        have hfz23_0 := blk_frozen BK244.out 0
                        have hfz23_1 := blk_frozen BK244.out 1
                        have hfz23_2 := blk_frozen BK244.out 2
                        have hfz23_3 := blk_frozen BK244.out 3
                        have p247 : 0 ≤ (x3_3 : Int) := of_decide_eq_true (by first | (with_reducible assumption) | assumption)
                        have q247 : x3_3 < (l0_2.length : Int) := of_decide_eq_true (by first | (with_reducible assumption) | assumption)
                        obtain ⟨ad247, e247, hx247_0, hx247_1, hx247_2⟩ := at_T41 HR0_2.out x3_3 p247 q247
                        cases e247
                        replace hx247_0 := (HB.out.cell (World.block_lt_of_cell? w _ hx247_0)).trans hx247_0
                        replace hx247_1 := (HB.out.cell (World.block_lt_of_cell? w _ hx247_1)).trans hx247_1
                        replace hx247_2 := (HB.out.cell (World.block_lt_of_cell? w _ hx247_2)).trans hx247_2
                        replace p247 := eq_true p247
                        replace q247 := eq_true q247
                        go_upto_region 11 with (first | ((with_reducible refine gate_dst (N := 4) rfl ?_); (try (refine gate_guard (by rfl) ?_; dsimp only)); refine box_event ?hg (N := 4) ?hd (cs := #[.string (⟨#[]⟩ : ByteArray), .string (⟨#[]⟩ : ByteArray), .int .i64 0]) (t := 41) ?hr ?_; (case hd => rfl); (case hg => rfl); (case hr => first | (go_simp; done) | (go_simp; rfl)); intro gb248 hg w24 hbox hb; have n0_ := Aside0.mk (blk_below (g := gb244) (pk BK244) hb); have n1_ := Aside0.mk (below_step (by repeat (first | (with_reducible first | exact HB.out | apply below_alloc | apply pw_below_drewN | apply below_drew1 | refine below_set ?_ GE244.out) | exact HB.out)) hb); have n2_ := Aside0.mk (hbox); have n3_ := Aside0.mk ((by rw [hg]; exact (below_size (by repeat (first | (with_reducible first | exact HB.out | apply below_alloc | apply pw_below_drewN | apply below_drew1 | refine below_set ?_ GE244.out) | exact HB.out))) : w.heap.size ≤ gb248)); have n4_ := Aside0.mk ((by rw [hg]; exact (below_size (by repeat (first | (with_reducible first | exact HB.out | apply below_alloc | apply pw_below_drewN | apply below_drew1 | refine below_set ?_ GE244.out) | exact HB.out))) : w.heap.size ≤ gb248)); have n5_ := Aside0.mk ((ne_lt hg (pk BK244) : gb244 ≠ gb248)); have n6_ := Aside0.mk ((ne_gt hg (pk BK244) : gb248 ≠ gb244)); clear BK244; clear HB; have BK244 := n0_; have HB := n1_; have BK248 := n2_; have GW248 := n3_; have GE248 := n4_; have NB244_248 := n5_; have NB248_244 := n6_; clear n0_ n1_ n2_ n3_ n4_ n5_ n6_; clear hb hbox hg; have hnb25 := NB248_244.out; have hnc25 := NB244_248.out; have hcz26_0 : w24.cell? ⟨gb248, 0, none⟩ = some (.string (⟨#[]⟩ : ByteArray)) := bc BK248 0; have hcz26_1 : w24.cell? ⟨gb248, 1, none⟩ = some (.string (⟨#[]⟩ : ByteArray)) := bc BK248 1; have hcz26_2 : w24.cell? ⟨gb248, 2, none⟩ = some (.int .i64 0) := bc BK248 2; have hfz26_0 := blk_frozen BK248.out 0; have hfz26_1 := blk_frozen BK248.out 1; have hfz26_2 := blk_frozen BK248.out 2))
                        repeat (go_quiet (first | ((with_reducible refine gate_dst (N := 4) rfl ?_); (try (refine gate_guard (by rfl) ?_; dsimp only)); refine box_event ?hg (N := 4) ?hd (cs := #[.string (⟨#[]⟩ : ByteArray), .string (⟨#[]⟩ : ByteArray), .int .i64 0]) (t := 41) ?hr ?_; (case hd => rfl); (case hg => rfl); (case hr => first | (go_simp; done) | (go_simp; rfl)); intro gb248 hg w24 hbox hb; have n0_ := Aside0.mk (blk_below (g := gb244) (pk BK244) hb); have n1_ := Aside0.mk (below_step (by repeat (first | (with_reducible first | exact HB.out | apply below_alloc | apply pw_below_drewN | apply below_drew1 | refine below_set ?_ GE244.out) | exact HB.out)) hb); have n2_ := Aside0.mk (hbox); have n3_ := Aside0.mk ((by rw [hg]; exact (below_size (by repeat (first | (with_reducible first | exact HB.out | apply below_alloc | apply pw_below_drewN | apply below_drew1 | refine below_set ?_ GE244.out) | exact HB.out))) : w.heap.size ≤ gb248)); have n4_ := Aside0.mk ((by rw [hg]; exact (below_size (by repeat (first | (with_reducible first | exact HB.out | apply below_alloc | apply pw_below_drewN | apply below_drew1 | refine below_set ?_ GE244.out) | exact HB.out))) : w.heap.size ≤ gb248)); have n5_ := Aside0.mk ((ne_lt hg (pk BK244) : gb244 ≠ gb248)); have n6_ := Aside0.mk ((ne_gt hg (pk BK244) : gb248 ≠ gb244)); clear BK244; clear HB; have BK244 := n0_; have HB := n1_; have BK248 := n2_; have GW248 := n3_; have GE248 := n4_; have NB244_248 := n5_; have NB248_244 := n6_; clear n0_ n1_ n2_ n3_ n4_ n5_ n6_; clear hb hbox hg; have hnb25 := NB248_244.out; have hnc25 := NB244_248.out; have hcz26_0 : w24.cell? ⟨gb248, 0, none⟩ = some (.string (⟨#[]⟩ : ByteArray)) := bc BK248 0; have hcz26_1 : w24.cell? ⟨gb248, 1, none⟩ = some (.string (⟨#[]⟩ : ByteArray)) := bc BK248 1; have hcz26_2 : w24.cell? ⟨gb248, 2, none⟩ = some (.int .i64 0) := bc BK248 2; have hfz26_0 := blk_frozen BK248.out 0; have hfz26_1 := blk_frozen BK248.out 1; have hfz26_2 := blk_frozen BK248.out 2)); go_upto_region 11 with (first | ((with_reducible refine gate_dst (N := 4) rfl ?_); (try (refine gate_guard (by rfl) ?_; dsimp only)); refine box_event ?hg (N := 4) ?hd (cs := #[.string (⟨#[]⟩ : ByteArray), .string (⟨#[]⟩ : ByteArray), .int .i64 0]) (t := 41) ?hr ?_; (case hd => rfl); (case hg => rfl); (case hr => first | (go_simp; done) | (go_simp; rfl)); intro gb248 hg w24 hbox hb; have n0_ := Aside0.mk (blk_below (g := gb244) (pk BK244) hb); have n1_ := Aside0.mk (below_step (by repeat (first | (with_reducible first | exact HB.out | apply below_alloc | apply pw_below_drewN | apply below_drew1 | refine below_set ?_ GE244.out) | exact HB.out)) hb); have n2_ := Aside0.mk (hbox); have n3_ := Aside0.mk ((by rw [hg]; exact (below_size (by repeat (first | (with_reducible first | exact HB.out | apply below_alloc | apply pw_below_drewN | apply below_drew1 | refine below_set ?_ GE244.out) | exact HB.out))) : w.heap.size ≤ gb248)); have n4_ := Aside0.mk ((by rw [hg]; exact (below_size (by repeat (first | (with_reducible first | exact HB.out | apply below_alloc | apply pw_below_drewN | apply below_drew1 | refine below_set ?_ GE244.out) | exact HB.out))) : w.heap.size ≤ gb248)); have n5_ := Aside0.mk ((ne_lt hg (pk BK244) : gb244 ≠ gb248)); have n6_ := Aside0.mk ((ne_gt hg (pk BK244) : gb248 ≠ gb244)); clear BK244; clear HB; have BK244 := n0_; have HB := n1_; have BK248 := n2_; have GW248 := n3_; have GE248 := n4_; have NB244_248 := n5_; have NB248_244 := n6_; clear n0_ n1_ n2_ n3_ n4_ n5_ n6_; clear hb hbox hg; have hnb25 := NB248_244.out; have hnc25 := NB244_248.out; have hcz26_0 : w24.cell? ⟨gb248, 0, none⟩ = some (.string (⟨#[]⟩ : ByteArray)) := bc BK248 0; have hcz26_1 : w24.cell? ⟨gb248, 1, none⟩ = some (.string (⟨#[]⟩ : ByteArray)) := bc BK248 1; have hcz26_2 : w24.cell? ⟨gb248, 2, none⟩ = some (.int .i64 0) := bc BK248 2; have hfz26_0 := blk_frozen BK248.out 0; have hfz26_1 := blk_frozen BK248.out 1; have hfz26_2 := blk_frozen BK248.out 2)))
                        (try simp only [Act.put, List.setIfInBounds_toArray, List.set_cons_zero, List.set_cons_succ])
                        go_cut [70] (fun v70 wc => ∃ (kq : Nat) (x70_21 : Bool), v70 = .bool x70_21 ∧ Aside0 (damperref2_Route.j3 kq x3_3 x70_21 a0_0 a0_1 l0_2 a0_3 ((rd_T41 l0_2 x3_3).f0) ((rd_T41 l0_2 x3_3).f1) ((rd_T41 l0_2 x3_3).f2) = some r) ∧ Aside0 (kq ≤ k3) ∧ Aside0 (wc.heap[gb244]? = some (.cells #[.string a0_0, .string a0_1, (.slice (some ad247) l0_2.length c0_2), .int .i64 a0_3] 35 (0, 0))) ∧ Aside0 (wc.heap[gb248]? = some (.cells #[.string ((rd_T41 l0_2 x3_3).f0), .string ((rd_T41 l0_2 x3_3).f1), .int .i64 ((rd_T41 l0_2 x3_3).f2)] 41 (0, 0))) ∧ Aside0 (Below w.heap.size w wc))
                        case first =>
                          have H := HC22.out
                          clear HC22
                          by_cases c27 : ((rd_T41 l0_2 x3_3).f0).toList = ([] : List UInt8)
                          · rw [if_pos c27] at H
                            have c27b0 : (((rd_T41 l0_2 x3_3).f0).toList == ([] : List UInt8)) = true := beq_iff_eq.mpr c27
                            have c27b1 : (((rd_T41 l0_2 x3_3).f0).toList != ([] : List UInt8)) = false := bne_eq_false_iff_eq.mpr c27
                            clear c27
                            (first | rw [c27b0] | (simp only [i64_w, i32_w]; rw [c27b0]) | rw [c27b1] | skip)
                            by_cases c28 : ((rd_T41 l0_2 x3_3).f1).toList = ([] : List UInt8)
                            · rw [if_pos c28] at H
                              have c28b0 : (((rd_T41 l0_2 x3_3).f1).toList == ([] : List UInt8)) = true := beq_iff_eq.mpr c28
                              have c28b1 : (((rd_T41 l0_2 x3_3).f1).toList != ([] : List UInt8)) = false := bne_eq_false_iff_eq.mpr c28
                              clear c28
                              have H' := Aside0.mk H
                              clear H
                              have hnb29 := NB248_244.out
                              have hnc29 := NB244_248.out
                              have hcz30_0 : w24.cell? ⟨gb248, 0, none⟩ = some (.string (⟨#[]⟩ : ByteArray)) := bc BK248 0
                              have hcz30_1 : w24.cell? ⟨gb248, 1, none⟩ = some (.string (⟨#[]⟩ : ByteArray)) := bc BK248 1
                              have hcz30_2 : w24.cell? ⟨gb248, 2, none⟩ = some (.int .i64 0) := bc BK248 2
                              have hfz30_0 := blk_frozen BK248.out 0
                              have hfz30_1 := blk_frozen BK248.out 1
                              have hfz30_2 := blk_frozen BK248.out 2
                              go_wp2
                              repeat (go_quiet (fail); try go_wp2)
                              go_meet
                              case rel => exact ⟨_, (false), (by first | rfl | (simp; done) | (simp [*]; done)), H', ⟨by have := HJ1.out; have := HJ9.out; have := HK3.out; first | omega | exact Nat.le_refl _⟩, ⟨by (repeat ((with_reducible repeat (first | refine blk_drewN ?_ _ | refine blk_drew ?_ | refine blk_alloc ?_ _)); with_reducible refine blk_far ?_ NB244_248.out _)); (with_reducible repeat (first | refine blk_drewN ?_ _ | refine blk_drew ?_ | refine blk_alloc ?_ _)); exact BK244.out⟩, ⟨by (with_reducible repeat (first | refine blk_drewN ?_ _ | refine blk_drew ?_ | refine blk_alloc ?_ _)); refine blk_put (cs := #[.string ((rd_T41 l0_2 x3_3).f0), .string ((rd_T41 l0_2 x3_3).f1), .int .i64 0]) ?_ 2 _ rfl; (with_reducible repeat (first | refine blk_drewN ?_ _ | refine blk_drew ?_ | refine blk_alloc ?_ _)); refine blk_put (cs := #[.string ((rd_T41 l0_2 x3_3).f0), .string (⟨#[]⟩ : ByteArray), .int .i64 0]) ?_ 1 _ rfl; (with_reducible repeat (first | refine blk_drewN ?_ _ | refine blk_drew ?_ | refine blk_alloc ?_ _)); refine blk_put (cs := #[.string (⟨#[]⟩ : ByteArray), .string (⟨#[]⟩ : ByteArray), .int .i64 0]) ?_ 0 _ rfl; (with_reducible repeat (first | refine blk_drewN ?_ _ | refine blk_drew ?_ | refine blk_alloc ?_ _)); exact BK248.out⟩, ⟨by repeat (first | (with_reducible first | exact HB.out | apply below_alloc | apply pw_below_drewN | apply below_drew1 | refine below_set ?_ GE244.out | refine below_set ?_ GE248.out) | exact HB.out)⟩⟩
                            · rw [if_neg c28] at H
                              have c28b0 : (((rd_T41 l0_2 x3_3).f1).toList == ([] : List UInt8)) = false := beq_eq_false_iff_ne.mpr c28
                              have c28b1 : (((rd_T41 l0_2 x3_3).f1).toList != ([] : List UInt8)) = true := bne_iff_ne.mpr c28
                              replace H := Option.bind_eq_some_iff.mp H
                              obtain ⟨t249, A310, H⟩ := H
                              replace H : (damperref2_Route.j3 k3 x3_3 (!t249) a0_0 a0_1 l0_2 a0_3 ((rd_T41 l0_2 x3_3).f0) ((rd_T41 l0_2 x3_3).f1) ((rd_T41 l0_2 x3_3).f2)) = some r := H
                              have A31 := Aside0.mk A310
                              clear A310
                              have H' := Aside0.mk H
                              clear H
                              have hnb32 := NB248_244.out
                              have hnc32 := NB244_248.out
                              have hcz33_0 : w24.cell? ⟨gb248, 0, none⟩ = some (.string (⟨#[]⟩ : ByteArray)) := bc BK248 0
                              have hcz33_1 : w24.cell? ⟨gb248, 1, none⟩ = some (.string (⟨#[]⟩ : ByteArray)) := bc BK248 1
                              have hcz33_2 : w24.cell? ⟨gb248, 2, none⟩ = some (.int .i64 0) := bc BK248 2
                              have hfz33_0 := blk_frozen BK248.out 0
                              have hfz33_1 := blk_frozen BK248.out 1
                              have hfz33_2 := blk_frozen BK248.out 2
                              go_wp2_with (first | (go_at_call 31; (with_reducible refine (damperref1_Tag.calls k3 ((rd_T41 l0_2 x3_3).f1) t249 _ A31.out).mono ?_); rintro e w' ⟨rfl, ⟨nd, rfl⟩⟩; (try first | exact ⟨rfl, _, World.drewN_drewN _ _ _⟩ | exact ⟨rfl, _, Eq.trans (World.drewN_drewN _ _ _) (congrArg (World.drewN _) (Nat.add_assoc _ _ _))⟩)))
                              repeat (go_quiet (first | (go_at_call 31; (with_reducible refine (damperref1_Tag.calls k3 ((rd_T41 l0_2 x3_3).f1) t249 _ A31.out).mono ?_); rintro e w' ⟨rfl, ⟨nd, rfl⟩⟩; (try first | exact ⟨rfl, _, World.drewN_drewN _ _ _⟩ | exact ⟨rfl, _, Eq.trans (World.drewN_drewN _ _ _) (congrArg (World.drewN _) (Nat.add_assoc _ _ _))⟩))); try go_wp2_with (first | (go_at_call 31; (with_reducible refine (damperref1_Tag.calls k3 ((rd_T41 l0_2 x3_3).f1) t249 _ A31.out).mono ?_); rintro e w' ⟨rfl, ⟨nd, rfl⟩⟩; (try first | exact ⟨rfl, _, World.drewN_drewN _ _ _⟩ | exact ⟨rfl, _, Eq.trans (World.drewN_drewN _ _ _) (congrArg (World.drewN _) (Nat.add_assoc _ _ _))⟩))))
                              go_meet
                              case rel => exact ⟨_, (!t249), (by first | rfl | (simp; done) | (simp [*]; done)), H', ⟨by have := HJ1.out; have := HJ9.out; have := HK3.out; first | omega | exact Nat.le_refl _⟩, ⟨by (repeat ((with_reducible repeat (first | refine blk_drewN ?_ _ | refine blk_drew ?_ | refine blk_alloc ?_ _)); with_reducible refine blk_far ?_ NB244_248.out _)); (with_reducible repeat (first | refine blk_drewN ?_ _ | refine blk_drew ?_ | refine blk_alloc ?_ _)); exact BK244.out⟩, ⟨by (with_reducible repeat (first | refine blk_drewN ?_ _ | refine blk_drew ?_ | refine blk_alloc ?_ _)); refine blk_put (cs := #[.string ((rd_T41 l0_2 x3_3).f0), .string ((rd_T41 l0_2 x3_3).f1), .int .i64 0]) ?_ 2 _ rfl; (with_reducible repeat (first | refine blk_drewN ?_ _ | refine blk_drew ?_ | refine blk_alloc ?_ _)); refine blk_put (cs := #[.string ((rd_T41 l0_2 x3_3).f0), .string (⟨#[]⟩ : ByteArray), .int .i64 0]) ?_ 1 _ rfl; (with_reducible repeat (first | refine blk_drewN ?_ _ | refine blk_drew ?_ | refine blk_alloc ?_ _)); refine blk_put (cs := #[.string (⟨#[]⟩ : ByteArray), .string (⟨#[]⟩ : ByteArray), .int .i64 0]) ?_ 0 _ rfl; (with_reducible repeat (first | refine blk_drewN ?_ _ | refine blk_drew ?_ | refine blk_alloc ?_ _)); exact BK248.out⟩, ⟨by repeat (first | (with_reducible first | exact HB.out | apply below_alloc | apply pw_below_drewN | apply below_drew1 | refine below_set ?_ GE244.out | refine below_set ?_ GE248.out) | exact HB.out)⟩⟩
                          · rw [if_neg c27] at H
                            have c27b0 : (((rd_T41 l0_2 x3_3).f0).toList == ([] : List UInt8)) = false := beq_eq_false_iff_ne.mpr c27
                            have c27b1 : (((rd_T41 l0_2 x3_3).f0).toList != ([] : List UInt8)) = true := bne_iff_ne.mpr c27
                            (first | rw [c27b0] | (simp only [i64_w, i32_w]; rw [c27b0]) | rw [c27b1] | skip)
                            replace H := Option.bind_eq_some_iff.mp H
                            obtain ⟨t250, A340, H⟩ := H
                            replace H : (if t250 = true then (if ((rd_T41 l0_2 x3_3).f1).toList = ([] : List UInt8) then (damperref2_Route.j3 k3 x3_3 false a0_0 a0_1 l0_2 a0_3 ((rd_T41 l0_2 x3_3).f0) ((rd_T41 l0_2 x3_3).f1) ((rd_T41 l0_2 x3_3).f2)) else ((damperref1_Tag.f k3 ((rd_T41 l0_2 x3_3).f1)).bind fun t251 => (damperref2_Route.j3 k3 x3_3 (!t251) a0_0 a0_1 l0_2 a0_3 ((rd_T41 l0_2 x3_3).f0) ((rd_T41 l0_2 x3_3).f1) ((rd_T41 l0_2 x3_3).f2)))) else (damperref2_Route.j3 k3 x3_3 true a0_0 a0_1 l0_2 a0_3 ((rd_T41 l0_2 x3_3).f0) ((rd_T41 l0_2 x3_3).f1) ((rd_T41 l0_2 x3_3).f2))) = some r := H
                            have A34 := Aside0.mk A340
                            clear A340
                            by_cases c35 : t250 = true
                            · subst c35
                              have H1 : (if ((rd_T41 l0_2 x3_3).f1).toList = ([] : List UInt8) then (damperref2_Route.j3 k3 x3_3 false a0_0 a0_1 l0_2 a0_3 ((rd_T41 l0_2 x3_3).f0) ((rd_T41 l0_2 x3_3).f1) ((rd_T41 l0_2 x3_3).f2)) else ((damperref1_Tag.f k3 ((rd_T41 l0_2 x3_3).f1)).bind fun t251 => (damperref2_Route.j3 k3 x3_3 (!t251) a0_0 a0_1 l0_2 a0_3 ((rd_T41 l0_2 x3_3).f0) ((rd_T41 l0_2 x3_3).f1) ((rd_T41 l0_2 x3_3).f2)))) = some r := by rw [if_pos rfl] at H; exact H
                              clear H
                              have H := H1
                              clear H1
                              by_cases c36 : ((rd_T41 l0_2 x3_3).f1).toList = ([] : List UInt8)
                              · rw [if_pos c36] at H
                                have c36b0 : (((rd_T41 l0_2 x3_3).f1).toList == ([] : List UInt8)) = true := beq_iff_eq.mpr c36
                                have c36b1 : (((rd_T41 l0_2 x3_3).f1).toList != ([] : List UInt8)) = false := bne_eq_false_iff_eq.mpr c36
                                clear c36
                                have H' := Aside0.mk H
                                clear H
                                have hnb37 := NB248_244.out
                                have hnc37 := NB244_248.out
                                have hcz38_0 : w24.cell? ⟨gb248, 0, none⟩ = some (.string (⟨#[]⟩ : ByteArray)) := bc BK248 0
                                have hcz38_1 : w24.cell? ⟨gb248, 1, none⟩ = some (.string (⟨#[]⟩ : ByteArray)) := bc BK248 1
                                have hcz38_2 : w24.cell? ⟨gb248, 2, none⟩ = some (.int .i64 0) := bc BK248 2
                                have hfz38_0 := blk_frozen BK248.out 0
                                have hfz38_1 := blk_frozen BK248.out 1
                                have hfz38_2 := blk_frozen BK248.out 2
                                go_wp2_with (first | (go_at_call 30; (with_reducible refine (damperref2_revision.calls k3 ((rd_T41 l0_2 x3_3).f0) true _ A34.out).mono ?_); rintro e w' ⟨rfl, ⟨nd, rfl⟩⟩; (try first | exact ⟨rfl, _, World.drewN_drewN _ _ _⟩ | exact ⟨rfl, _, Eq.trans (World.drewN_drewN _ _ _) (congrArg (World.drewN _) (Nat.add_assoc _ _ _))⟩)))
                                repeat (go_quiet (first | (go_at_call 30; (with_reducible refine (damperref2_revision.calls k3 ((rd_T41 l0_2 x3_3).f0) true _ A34.out).mono ?_); rintro e w' ⟨rfl, ⟨nd, rfl⟩⟩; (try first | exact ⟨rfl, _, World.drewN_drewN _ _ _⟩ | exact ⟨rfl, _, Eq.trans (World.drewN_drewN _ _ _) (congrArg (World.drewN _) (Nat.add_assoc _ _ _))⟩))); try go_wp2_with (first | (go_at_call 30; (with_reducible refine (damperref2_revision.calls k3 ((rd_T41 l0_2 x3_3).f0) true _ A34.out).mono ?_); rintro e w' ⟨rfl, ⟨nd, rfl⟩⟩; (try first | exact ⟨rfl, _, World.drewN_drewN _ _ _⟩ | exact ⟨rfl, _, Eq.trans (World.drewN_drewN _ _ _) (congrArg (World.drewN _) (Nat.add_assoc _ _ _))⟩))))
                                go_meet
                                case rel => exact ⟨_, (false), (by first | rfl | (simp; done) | (simp [*]; done)), H', ⟨by have := HJ1.out; have := HJ9.out; have := HK3.out; first | omega | exact Nat.le_refl _⟩, ⟨by (repeat ((with_reducible repeat (first | refine blk_drewN ?_ _ | refine blk_drew ?_ | refine blk_alloc ?_ _)); with_reducible refine blk_far ?_ NB244_248.out _)); (with_reducible repeat (first | refine blk_drewN ?_ _ | refine blk_drew ?_ | refine blk_alloc ?_ _)); exact BK244.out⟩, ⟨by (with_reducible repeat (first | refine blk_drewN ?_ _ | refine blk_drew ?_ | refine blk_alloc ?_ _)); refine blk_put (cs := #[.string ((rd_T41 l0_2 x3_3).f0), .string ((rd_T41 l0_2 x3_3).f1), .int .i64 0]) ?_ 2 _ rfl; (with_reducible repeat (first | refine blk_drewN ?_ _ | refine blk_drew ?_ | refine blk_alloc ?_ _)); refine blk_put (cs := #[.string ((rd_T41 l0_2 x3_3).f0), .string (⟨#[]⟩ : ByteArray), .int .i64 0]) ?_ 1 _ rfl; (with_reducible repeat (first | refine blk_drewN ?_ _ | refine blk_drew ?_ | refine blk_alloc ?_ _)); refine blk_put (cs := #[.string (⟨#[]⟩ : ByteArray), .string (⟨#[]⟩ : ByteArray), .int .i64 0]) ?_ 0 _ rfl; (with_reducible repeat (first | refine blk_drewN ?_ _ | refine blk_drew ?_ | refine blk_alloc ?_ _)); exact BK248.out⟩, ⟨by repeat (first | (with_reducible first | exact HB.out | apply below_alloc | apply pw_below_drewN | apply below_drew1 | refine below_set ?_ GE244.out | refine below_set ?_ GE248.out) | exact HB.out)⟩⟩
                              · rw [if_neg c36] at H
                                have c36b0 : (((rd_T41 l0_2 x3_3).f1).toList == ([] : List UInt8)) = false := beq_eq_false_iff_ne.mpr c36
                                have c36b1 : (((rd_T41 l0_2 x3_3).f1).toList != ([] : List UInt8)) = true := bne_iff_ne.mpr c36
                                replace H := Option.bind_eq_some_iff.mp H
                                obtain ⟨t251, A390, H⟩ := H
                                replace H : (damperref2_Route.j3 k3 x3_3 (!t251) a0_0 a0_1 l0_2 a0_3 ((rd_T41 l0_2 x3_3).f0) ((rd_T41 l0_2 x3_3).f1) ((rd_T41 l0_2 x3_3).f2)) = some r := H
                                have A39 := Aside0.mk A390
                                clear A390
                                have H' := Aside0.mk H
                                clear H
                                have hnb40 := NB248_244.out
                                have hnc40 := NB244_248.out
                                have hcz41_0 : w24.cell? ⟨gb248, 0, none⟩ = some (.string (⟨#[]⟩ : ByteArray)) := bc BK248 0
                                have hcz41_1 : w24.cell? ⟨gb248, 1, none⟩ = some (.string (⟨#[]⟩ : ByteArray)) := bc BK248 1
                                have hcz41_2 : w24.cell? ⟨gb248, 2, none⟩ = some (.int .i64 0) := bc BK248 2
                                have hfz41_0 := blk_frozen BK248.out 0
                                have hfz41_1 := blk_frozen BK248.out 1
                                have hfz41_2 := blk_frozen BK248.out 2
                                go_wp2_with (first | (go_at_call 30; (with_reducible refine (damperref2_revision.calls k3 ((rd_T41 l0_2 x3_3).f0) true _ A34.out).mono ?_); rintro e w' ⟨rfl, ⟨nd, rfl⟩⟩; (try first | exact ⟨rfl, _, World.drewN_drewN _ _ _⟩ | exact ⟨rfl, _, Eq.trans (World.drewN_drewN _ _ _) (congrArg (World.drewN _) (Nat.add_assoc _ _ _))⟩)) | (go_at_call 31; (with_reducible refine (damperref1_Tag.calls k3 ((rd_T41 l0_2 x3_3).f1) t251 _ A39.out).mono ?_); rintro e w' ⟨rfl, ⟨nd, rfl⟩⟩; (try first | exact ⟨rfl, _, World.drewN_drewN _ _ _⟩ | exact ⟨rfl, _, Eq.trans (World.drewN_drewN _ _ _) (congrArg (World.drewN _) (Nat.add_assoc _ _ _))⟩)))
                                repeat (go_quiet (first | (go_at_call 30; (with_reducible refine (damperref2_revision.calls k3 ((rd_T41 l0_2 x3_3).f0) true _ A34.out).mono ?_); rintro e w' ⟨rfl, ⟨nd, rfl⟩⟩; (try first | exact ⟨rfl, _, World.drewN_drewN _ _ _⟩ | exact ⟨rfl, _, Eq.trans (World.drewN_drewN _ _ _) (congrArg (World.drewN _) (Nat.add_assoc _ _ _))⟩)) | (go_at_call 31; (with_reducible refine (damperref1_Tag.calls k3 ((rd_T41 l0_2 x3_3).f1) t251 _ A39.out).mono ?_); rintro e w' ⟨rfl, ⟨nd, rfl⟩⟩; (try first | exact ⟨rfl, _, World.drewN_drewN _ _ _⟩ | exact ⟨rfl, _, Eq.trans (World.drewN_drewN _ _ _) (congrArg (World.drewN _) (Nat.add_assoc _ _ _))⟩))); try go_wp2_with (first | (go_at_call 30; (with_reducible refine (damperref2_revision.calls k3 ((rd_T41 l0_2 x3_3).f0) true _ A34.out).mono ?_); rintro e w' ⟨rfl, ⟨nd, rfl⟩⟩; (try first | exact ⟨rfl, _, World.drewN_drewN _ _ _⟩ | exact ⟨rfl, _, Eq.trans (World.drewN_drewN _ _ _) (congrArg (World.drewN _) (Nat.add_assoc _ _ _))⟩)) | (go_at_call 31; (with_reducible refine (damperref1_Tag.calls k3 ((rd_T41 l0_2 x3_3).f1) t251 _ A39.out).mono ?_); rintro e w' ⟨rfl, ⟨nd, rfl⟩⟩; (try first | exact ⟨rfl, _, World.drewN_drewN _ _ _⟩ | exact ⟨rfl, _, Eq.trans (World.drewN_drewN _ _ _) (congrArg (World.drewN _) (Nat.add_assoc _ _ _))⟩))))
                                go_meet
                                case rel => exact ⟨_, (!t251), (by first | rfl | (simp; done) | (simp [*]; done)), H', ⟨by have := HJ1.out; have := HJ9.out; have := HK3.out; first | omega | exact Nat.le_refl _⟩, ⟨by (repeat ((with_reducible repeat (first | refine blk_drewN ?_ _ | refine blk_drew ?_ | refine blk_alloc ?_ _)); with_reducible refine blk_far ?_ NB244_248.out _)); (with_reducible repeat (first | refine blk_drewN ?_ _ | refine blk_drew ?_ | refine blk_alloc ?_ _)); exact BK244.out⟩, ⟨by (with_reducible repeat (first | refine blk_drewN ?_ _ | refine blk_drew ?_ | refine blk_alloc ?_ _)); refine blk_put (cs := #[.string ((rd_T41 l0_2 x3_3).f0), .string ((rd_T41 l0_2 x3_3).f1), .int .i64 0]) ?_ 2 _ rfl; (with_reducible repeat (first | refine blk_drewN ?_ _ | refine blk_drew ?_ | refine blk_alloc ?_ _)); refine blk_put (cs := #[.string ((rd_T41 l0_2 x3_3).f0), .string (⟨#[]⟩ : ByteArray), .int .i64 0]) ?_ 1 _ rfl; (with_reducible repeat (first | refine blk_drewN ?_ _ | refine blk_drew ?_ | refine blk_alloc ?_ _)); refine blk_put (cs := #[.string (⟨#[]⟩ : ByteArray), .string (⟨#[]⟩ : ByteArray), .int .i64 0]) ?_ 0 _ rfl; (with_reducible repeat (first | refine blk_drewN ?_ _ | refine blk_drew ?_ | refine blk_alloc ?_ _)); exact BK248.out⟩, ⟨by repeat (first | (with_reducible first | exact HB.out | apply below_alloc | apply pw_below_drewN | apply below_drew1 | refine below_set ?_ GE244.out | refine below_set ?_ GE248.out) | exact HB.out)⟩⟩
                            · replace c35 := Bool.eq_false_iff.mpr c35
                              subst c35
                              have H1 : (damperref2_Route.j3 k3 x3_3 true a0_0 a0_1 l0_2 a0_3 ((rd_T41 l0_2 x3_3).f0) ((rd_T41 l0_2 x3_3).f1) ((rd_T41 l0_2 x3_3).f2)) = some r := by rw [if_neg (show ¬ (false = true) by decide)] at H; exact H
                              clear H
                              have H := H1
                              clear H1
                              have H' := Aside0.mk H
                              clear H
                              have hnb42 := NB248_244.out
                              have hnc42 := NB244_248.out
                              have hcz43_0 : w24.cell? ⟨gb248, 0, none⟩ = some (.string (⟨#[]⟩ : ByteArray)) := bc BK248 0
                              have hcz43_1 : w24.cell? ⟨gb248, 1, none⟩ = some (.string (⟨#[]⟩ : ByteArray)) := bc BK248 1
                              have hcz43_2 : w24.cell? ⟨gb248, 2, none⟩ = some (.int .i64 0) := bc BK248 2
                              have hfz43_0 := blk_frozen BK248.out 0
                              have hfz43_1 := blk_frozen BK248.out 1
                              have hfz43_2 := blk_frozen BK248.out 2
                              go_wp2_with (first | (go_at_call 30; (with_reducible refine (damperref2_revision.calls k3 ((rd_T41 l0_2 x3_3).f0) false _ A34.out).mono ?_); rintro e w' ⟨rfl, ⟨nd, rfl⟩⟩; (try first | exact ⟨rfl, _, World.drewN_drewN _ _ _⟩ | exact ⟨rfl, _, Eq.trans (World.drewN_drewN _ _ _) (congrArg (World.drewN _) (Nat.add_assoc _ _ _))⟩)))
                              repeat (go_quiet (first | (go_at_call 30; (with_reducible refine (damperref2_revision.calls k3 ((rd_T41 l0_2 x3_3).f0) false _ A34.out).mono ?_); rintro e w' ⟨rfl, ⟨nd, rfl⟩⟩; (try first | exact ⟨rfl, _, World.drewN_drewN _ _ _⟩ | exact ⟨rfl, _, Eq.trans (World.drewN_drewN _ _ _) (congrArg (World.drewN _) (Nat.add_assoc _ _ _))⟩))); try go_wp2_with (first | (go_at_call 30; (with_reducible refine (damperref2_revision.calls k3 ((rd_T41 l0_2 x3_3).f0) false _ A34.out).mono ?_); rintro e w' ⟨rfl, ⟨nd, rfl⟩⟩; (try first | exact ⟨rfl, _, World.drewN_drewN _ _ _⟩ | exact ⟨rfl, _, Eq.trans (World.drewN_drewN _ _ _) (congrArg (World.drewN _) (Nat.add_assoc _ _ _))⟩))))
                              go_meet
                              case rel => exact ⟨_, (true), (by first | rfl | (simp; done) | (simp [*]; done)), H', ⟨by have := HJ1.out; have := HJ9.out; have := HK3.out; first | omega | exact Nat.le_refl _⟩, ⟨by (repeat ((with_reducible repeat (first | refine blk_drewN ?_ _ | refine blk_drew ?_ | refine blk_alloc ?_ _)); with_reducible refine blk_far ?_ NB244_248.out _)); (with_reducible repeat (first | refine blk_drewN ?_ _ | refine blk_drew ?_ | refine blk_alloc ?_ _)); exact BK244.out⟩, ⟨by (with_reducible repeat (first | refine blk_drewN ?_ _ | refine blk_drew ?_ | refine blk_alloc ?_ _)); refine blk_put (cs := #[.string ((rd_T41 l0_2 x3_3).f0), .string ((rd_T41 l0_2 x3_3).f1), .int .i64 0]) ?_ 2 _ rfl; (with_reducible repeat (first | refine blk_drewN ?_ _ | refine blk_drew ?_ | refine blk_alloc ?_ _)); refine blk_put (cs := #[.string ((rd_T41 l0_2 x3_3).f0), .string (⟨#[]⟩ : ByteArray), .int .i64 0]) ?_ 1 _ rfl; (with_reducible repeat (first | refine blk_drewN ?_ _ | refine blk_drew ?_ | refine blk_alloc ?_ _)); refine blk_put (cs := #[.string (⟨#[]⟩ : ByteArray), .string (⟨#[]⟩ : ByteArray), .int .i64 0]) ?_ 0 _ rfl; (with_reducible repeat (first | refine blk_drewN ?_ _ | refine blk_drew ?_ | refine blk_alloc ?_ _)); exact BK248.out⟩, ⟨by repeat (first | (with_reducible first | exact HB.out | apply below_alloc | apply pw_below_drewN | apply below_drew1 | refine below_set ?_ GE244.out | refine below_set ?_ GE248.out) | exact HB.out)⟩⟩
                        case rest =>
                          clear HC22
                          try clear c1
                          try clear c2
                          try clear p2
                          try clear q2
                          try clear hx2
                          try clear c3
                          try clear c4
                          try clear c5
                          try clear c9
                          try clear c11
                          try clear c11b0
                          try clear c11b1
                          try clear c14
                          try clear c15
                          try clear c15b0
                          try clear c15b1
                          try clear c17
                          try clear c17b0
                          try clear c17b1
                          try clear c20
                          try clear c20b0
                          try clear c21
                          try clear c21b0
                          try clear p24
                          try clear q24
                          try clear hx24
                          try clear c25
                          try clear c27
                          try clear c27b0
                          try clear c27b1
                          try clear c28
                          try clear c28b0
                          try clear c28b1
                          try clear c29
                          try clear c32
                          try clear c35
                          try clear c36
                          try clear c36b0
                          try clear c36b1
                          try clear c37
                          try clear c40
                          try clear c42
                          try clear hcz12_0
                          try clear hcz12_1
                          try clear hcz12_2
                          try clear hcz12_3
                          try clear hcz13_0
                          try clear hcz13_1
                          try clear hcz13_2
                          try clear hcz13_3
                          try clear hcz16_0
                          try clear hcz16_1
                          try clear hcz16_2
                          try clear hcz16_3
                          try clear hcz18_0
                          try clear hcz18_1
                          try clear hcz18_2
                          try clear hcz18_3
                          try clear hcz19_0
                          try clear hcz19_1
                          try clear hcz19_2
                          try clear hcz19_3
                          try clear hcz23_0
                          try clear hcz23_1
                          try clear hcz23_2
                          try clear hcz23_3
                          try clear hcz26_0
                          try clear hcz26_1
                          try clear hcz26_2
                          try clear hcz30_0
                          try clear hcz30_1
                          try clear hcz30_2
                          try clear hcz33_0
                          try clear hcz33_1
                          try clear hcz33_2
                          try clear hcz38_0
                          try clear hcz38_1
                          try clear hcz38_2
                          try clear hcz41_0
                          try clear hcz41_1
                          try clear hcz41_2
                          try clear hcz43_0
                          try clear hcz43_1
                          try clear hcz43_2
                          try clear hcz7_0
                          try clear hcz7_1
                          try clear hcz7_2
                          try clear hcz7_3
                          try clear hcz8_0
                          try clear hcz8_1
                          try clear hcz8_2
                          try clear hcz8_3
                          try clear hfz12_0
                          try clear hfz12_1
                          try clear hfz12_2
                          try clear hfz12_3
                          try clear hfz13_0
                          try clear hfz13_1
                          try clear hfz13_2
                          try clear hfz13_3
                          try clear hfz16_0
                          try clear hfz16_1
                          try clear hfz16_2
                          try clear hfz16_3
                          try clear hfz18_0
                          try clear hfz18_1
                          try clear hfz18_2
                          try clear hfz18_3
                          try clear hfz19_0
                          try clear hfz19_1
                          try clear hfz19_2
                          try clear hfz19_3
                          try clear hfz23_0
                          try clear hfz23_1
                          try clear hfz23_2
                          try clear hfz23_3
                          try clear hfz26_0
                          try clear hfz26_1
                          try clear hfz26_2
                          try clear hfz30_0
                          try clear hfz30_1
                          try clear hfz30_2
                          try clear hfz33_0
                          try clear hfz33_1
                          try clear hfz33_2
                          try clear hfz38_0
                          try clear hfz38_1
                          try clear hfz38_2
                          try clear hfz41_0
                          try clear hfz41_1
                          try clear hfz41_2
                          try clear hfz43_0
                          try clear hfz43_1
                          try clear hfz43_2
                          try clear hfz7_0
                          try clear hfz7_1
                          try clear hfz7_2
                          try clear hfz7_3
                          try clear hfz8_0
                          try clear hfz8_1
                          try clear hfz8_2
                          try clear hfz8_3
                          try clear hx247_0
                          try clear hx247_1
                          try clear hx247_2
                          try clear p2
                          try clear p247
                          try clear q247
                          obtain ⟨kq, x70_21, rfl, HA, HJ21, BK244, BK248, HB⟩ := hcut
                          cases kq with
                          | zero => exact absurd HA.out (by simp [damperref2_Route.j3])
                          | succ kj21 =>
                            have H := HA.out
                            clear HA
                            simp only [damperref2_Route.j3] at H
                            by_cases c44 : x70_21 = true
                            · subst c44
                              have H1 : (some 1) = some r := by rw [if_pos rfl] at H; exact H
                              clear H
                              have H := H1
                              clear H1
                              obtain rfl := Option.some.inj H
                              go_wp2
                              repeat (go_quiet (fail); try go_wp2)
                              go_ret
                              exact ⟨by first | rfl | (simp [errW_none, errW_some] <;> rfl) | (simp [*, errW_none, errW_some] <;> rfl), by repeat (first | (with_reducible first | exact HB.out | apply below_alloc | apply pw_below_drewN | apply below_drew1 | refine below_set ?_ GE244.out | refine below_set ?_ GE248.out) | exact HB.out)⟩
                            · replace c44 := Bool.eq_false_iff.mpr c44
                              subst c44
                              have H1 : (if ((rd_T41 l0_2 x3_3).f2) < 0 then (some 2) else (if ((rd_T41 l0_2 x3_3).f2) > 100 then (some 2) else (damperref2_Route.l0 kj21 (wrap64 (x3_3 + 1)) a0_0 a0_1 l0_2 a0_3))) = some r := by rw [if_neg (show ¬ (false = true) by decide)] at H; exact H
                              clear H
                              have H := H1
                              clear H1
                              by_cases c45 : ((rd_T41 l0_2 x3_3).f2) < 0
                              · rw [if_pos c45] at H
                                have c45b0 : decide (((rd_T41 l0_2 x3_3).f2) < 0) = true := decide_eq_true c45
                                clear c45
                                obtain rfl := Option.some.inj H
                                have hnb46 := NB248_244.out
                                have hnc46 := NB244_248.out
                                have hcz47_0 : wc.cell? ⟨gb248, 0, none⟩ = some (.string ((rd_T41 l0_2 x3_3).f0)) := bc BK248 0
                                have hcz47_1 : wc.cell? ⟨gb248, 1, none⟩ = some (.string ((rd_T41 l0_2 x3_3).f1)) := bc BK248 1
                                have hcz47_2 : wc.cell? ⟨gb248, 2, none⟩ = some (.int .i64 ((rd_T41 l0_2 x3_3).f2)) := bc BK248 2
                                have hfz47_0 := blk_frozen BK248.out 0
                                have hfz47_1 := blk_frozen BK248.out 1
                                have hfz47_2 := blk_frozen BK248.out 2
                                go_wp2
                                repeat (go_quiet (fail); try go_wp2)
                                go_ret
                                exact ⟨by first | rfl | (simp [errW_none, errW_some] <;> rfl) | (simp [*, errW_none, errW_some] <;> rfl), by repeat (first | (with_reducible first | exact HB.out | apply below_alloc | apply pw_below_drewN | apply below_drew1 | refine below_set ?_ GE244.out | refine below_set ?_ GE248.out) | exact HB.out)⟩
                              · rw [if_neg c45] at H
                                have c45b0 : decide (((rd_T41 l0_2 x3_3).f2) < 0) = false := decide_eq_false c45
                                clear c45
                                by_cases c48 : ((rd_T41 l0_2 x3_3).f2) > 100
                                · rw [if_pos c48] at H
                                  have c48b0 : decide (100 < ((rd_T41 l0_2 x3_3).f2)) = true := decide_eq_true c48
                                  clear c48
                                  obtain rfl := Option.some.inj H
                                  have hnb49 := NB248_244.out
                                  have hnc49 := NB244_248.out
                                  have hcz50_0 : wc.cell? ⟨gb248, 0, none⟩ = some (.string ((rd_T41 l0_2 x3_3).f0)) := bc BK248 0
                                  have hcz50_1 : wc.cell? ⟨gb248, 1, none⟩ = some (.string ((rd_T41 l0_2 x3_3).f1)) := bc BK248 1
                                  have hcz50_2 : wc.cell? ⟨gb248, 2, none⟩ = some (.int .i64 ((rd_T41 l0_2 x3_3).f2)) := bc BK248 2
                                  have hfz50_0 := blk_frozen BK248.out 0
                                  have hfz50_1 := blk_frozen BK248.out 1
                                  have hfz50_2 := blk_frozen BK248.out 2
                                  go_wp2
                                  repeat (go_quiet (fail); try go_wp2)
                                  go_ret
                                  exact ⟨by first | rfl | (simp [errW_none, errW_some] <;> rfl) | (simp [*, errW_none, errW_some] <;> rfl), by repeat (first | (with_reducible first | exact HB.out | apply below_alloc | apply pw_below_drewN | apply below_drew1 | refine below_set ?_ GE244.out | refine below_set ?_ GE248.out) | exact HB.out)⟩
                                · rw [if_neg c48] at H
                                  have c48b0 : decide (100 < ((rd_T41 l0_2 x3_3).f2)) = false := decide_eq_false c48
                                  clear c48
                                  have H' := Aside0.mk H
                                  clear H
                                  have hnb51 := NB248_244.out
                                  have hnc51 := NB244_248.out
                                  have hcz52_0 : wc.cell? ⟨gb248, 0, none⟩ = some (.string ((rd_T41 l0_2 x3_3).f0)) := bc BK248 0
                                  have hcz52_1 : wc.cell? ⟨gb248, 1, none⟩ = some (.string ((rd_T41 l0_2 x3_3).f1)) := bc BK248 1
                                  have hcz52_2 : wc.cell? ⟨gb248, 2, none⟩ = some (.int .i64 ((rd_T41 l0_2 x3_3).f2)) := bc BK248 2
                                  have hfz52_0 := blk_frozen BK248.out 0
                                  have hfz52_1 := blk_frozen BK248.out 1
                                  have hfz52_2 := blk_frozen BK248.out 2
                                  go_wp2
                                  repeat (go_quiet (fail); try go_wp2)
                                  go_roundg kj21
                                  case measure => have := HJ1.out; have := HJ9.out; have := HK3.out; have := HJ21.out; omega
                                  case rel => exact ⟨(wrap64 (x3_3 + 1)), (by first | rfl | (simp; done) | (simp [*]; done)), H', ⟨by have := HJ1.out; have := HJ9.out; have := HK3.out; have := HJ21.out; omega⟩, ⟨by (with_reducible repeat (first | refine blk_drewN ?_ _ | refine blk_drew ?_ | refine blk_alloc ?_ _)); exact BK244.out⟩, ⟨by repeat (first | (with_reducible first | exact HB.out | apply below_alloc | apply pw_below_drewN | apply below_drew1 | refine below_set ?_ GE244.out | refine below_set ?_ GE248.out) | exact HB.out)⟩⟩
                      · rw [if_neg c20] at H
                        have c20b0 : decide (x3_3 < (l0_2.length : Int)) = false := decide_eq_false c20
                        clear c20
                        have H' := Aside0.mk H
                        clear H
                        have hcz53_0 : wr.cell? ⟨gb244, 0, none⟩ = some (.string a0_0) := bc BK244 0
                        have hcz53_1 : wr.cell? ⟨gb244, 1, none⟩ = some (.string a0_1) := bc BK244 1
                        have hcz53_2 : wr.cell? ⟨gb244, 2, none⟩ = some (.slice A0_2 l0_2.length c0_2) := bc BK244 2
                        have hcz53_3 : wr.cell? ⟨gb244, 3, none⟩ = some (.int .i64 a0_3) := bc BK244 3
                        have hfz53_0 := blk_frozen BK244.out 0
                        have hfz53_1 := blk_frozen BK244.out 1
                        have hfz53_2 := blk_frozen BK244.out 2
                        have hfz53_3 := blk_frozen BK244.out 3
                        go_wp2
                        repeat (go_quiet (fail); try go_wp2)
                        go_loopg [5, 6] k3 (fun kq v5 v6 w' => ∃ (x5_4 : Int) (x6_4 : Int), v5 = .int .i64 x5_4 ∧ v6 = .int .i64 x6_4 ∧ Aside0 (damperref2_Route.l1 kq x5_4 x6_4 a0_0 a0_1 l0_2 a0_3 = some r) ∧ Aside0 (kq ≤ k3) ∧ Aside0 (w'.heap[gb244]? = some (.cells #[.string a0_0, .string a0_1, (.slice A0_2 l0_2.length c0_2), .int .i64 a0_3] 35 (0, 0))) ∧ Aside0 (Below w.heap.size w w'))
                        case atStart => exact ⟨(0), (0), (by first | rfl | (simp; done) | (simp [*]; done)), (by first | rfl | (simp; done) | (simp [*]; done)), H', ⟨Nat.le_refl _⟩, ⟨by (with_reducible repeat (first | refine blk_drewN ?_ _ | refine blk_drew ?_ | refine blk_alloc ?_ _)); exact BK244.out⟩, ⟨by repeat (first | (with_reducible first | exact HB.out | apply below_alloc | apply pw_below_drewN | apply below_drew1 | refine below_set ?_ GE244.out) | exact HB.out)⟩⟩
                        case round =>
                          clear H'
                          try clear c1
                          try clear c2
                          try clear p2
                          try clear q2
                          try clear hx2
                          try clear c3
                          try clear c4
                          try clear c5
                          try clear p6
                          try clear c9
                          try clear c11
                          try clear c11b0
                          try clear c11b1
                          try clear c14
                          try clear c15
                          try clear c15b0
                          try clear c15b1
                          try clear c17
                          try clear c17b0
                          try clear c17b1
                          try clear c20
                          try clear c20b0
                          try clear c21
                          try clear c21b0
                          try clear p24
                          try clear q24
                          try clear hx24
                          try clear c25
                          try clear c27
                          try clear c27b0
                          try clear c27b1
                          try clear c28
                          try clear c28b0
                          try clear c28b1
                          try clear c29
                          try clear c32
                          try clear c35
                          try clear c36
                          try clear c36b0
                          try clear c36b1
                          try clear c37
                          try clear c40
                          try clear c42
                          try clear c44
                          try clear c45
                          try clear c45b0
                          try clear c46
                          try clear c48
                          try clear c48b0
                          try clear c49
                          try clear c51
                          try clear hcz12_0
                          try clear hcz12_1
                          try clear hcz12_2
                          try clear hcz12_3
                          try clear hcz13_0
                          try clear hcz13_1
                          try clear hcz13_2
                          try clear hcz13_3
                          try clear hcz16_0
                          try clear hcz16_1
                          try clear hcz16_2
                          try clear hcz16_3
                          try clear hcz18_0
                          try clear hcz18_1
                          try clear hcz18_2
                          try clear hcz18_3
                          try clear hcz19_0
                          try clear hcz19_1
                          try clear hcz19_2
                          try clear hcz19_3
                          try clear hcz23_0
                          try clear hcz23_1
                          try clear hcz23_2
                          try clear hcz23_3
                          try clear hcz26_0
                          try clear hcz26_1
                          try clear hcz26_2
                          try clear hcz30_0
                          try clear hcz30_1
                          try clear hcz30_2
                          try clear hcz33_0
                          try clear hcz33_1
                          try clear hcz33_2
                          try clear hcz38_0
                          try clear hcz38_1
                          try clear hcz38_2
                          try clear hcz41_0
                          try clear hcz41_1
                          try clear hcz41_2
                          try clear hcz43_0
                          try clear hcz43_1
                          try clear hcz43_2
                          try clear hcz47_0
                          try clear hcz47_1
                          try clear hcz47_2
                          try clear hcz50_0
                          try clear hcz50_1
                          try clear hcz50_2
                          try clear hcz52_0
                          try clear hcz52_1
                          try clear hcz52_2
                          try clear hcz53_0
                          try clear hcz53_1
                          try clear hcz53_2
                          try clear hcz53_3
                          try clear hcz7_0
                          try clear hcz7_1
                          try clear hcz7_2
                          try clear hcz7_3
                          try clear hcz8_0
                          try clear hcz8_1
                          try clear hcz8_2
                          try clear hcz8_3
                          try clear hfz12_0
                          try clear hfz12_1
                          try clear hfz12_2
                          try clear hfz12_3
                          try clear hfz13_0
                          try clear hfz13_1
                          try clear hfz13_2
                          try clear hfz13_3
                          try clear hfz16_0
                          try clear hfz16_1
                          try clear hfz16_2
                          try clear hfz16_3
                          try clear hfz18_0
                          try clear hfz18_1
                          try clear hfz18_2
                          try clear hfz18_3
                          try clear hfz19_0
                          try clear hfz19_1
                          try clear hfz19_2
                          try clear hfz19_3
                          try clear hfz23_0
                          try clear hfz23_1
                          try clear hfz23_2
                          try clear hfz23_3
                          try clear hfz26_0
                          try clear hfz26_1
                          try clear hfz26_2
                          try clear hfz30_0
                          try clear hfz30_1
                          try clear hfz30_2
                          try clear hfz33_0
                          try clear hfz33_1
                          try clear hfz33_2
                          try clear hfz38_0
                          try clear hfz38_1
                          try clear hfz38_2
                          try clear hfz41_0
                          try clear hfz41_1
                          try clear hfz41_2
                          try clear hfz43_0
                          try clear hfz43_1
                          try clear hfz43_2
                          try clear hfz47_0
                          try clear hfz47_1
                          try clear hfz47_2
                          try clear hfz50_0
                          try clear hfz50_1
                          try clear hfz50_2
                          try clear hfz52_0
                          try clear hfz52_1
                          try clear hfz52_2
                          try clear hfz53_0
                          try clear hfz53_1
                          try clear hfz53_2
                          try clear hfz53_3
                          try clear hfz7_0
                          try clear hfz7_1
                          try clear hfz7_2
                          try clear hfz7_3
                          try clear hfz8_0
                          try clear hfz8_1
                          try clear hfz8_2
                          try clear hfz8_3
                          try clear hx247_0
                          try clear hx247_1
                          try clear hx247_2
                          try clear p2
                          try clear p24
                          try clear p247
                          try clear q2
                          try clear q24
                          try clear q247
                          obtain ⟨x5_4, x6_4, rfl, rfl, HA, HK4, BK244, HB⟩ := hrel
                          cases gk with
                          | zero => exact absurd HA.out (by simp [damperref2_Route.l1])
                          | succ k4 =>
                            have H := HA.out
                            clear HA
                            simp only [damperref2_Route.l1] at H
                            by_cases c54 : x6_4 < (l0_2.length : Int)
                            · rw [if_pos c54] at H
                              have c54b0 : decide (x6_4 < (l0_2.length : Int)) = true := decide_eq_true c54
                              clear c54
                              by_cases c55 : 0 ≤ x6_4
                              rotate_left
                              · rw [if_neg c55] at H
                                exact absurd H (by simp)
                              rw [if_pos c55] at H
                              have c55b0 : decide (0 ≤ x6_4) = true := decide_eq_true c55
                              clear c55
                              have H' := Aside0.mk H
                              clear H
                              have hcz56_0 : wr.cell? ⟨gb244, 0, none⟩ = some (.string a0_0) := bc BK244 0
                              have hcz56_1 : wr.cell? ⟨gb244, 1, none⟩ = some (.string a0_1) := bc BK244 1
                              have hcz56_2 : wr.cell? ⟨gb244, 2, none⟩ = some (.slice A0_2 l0_2.length c0_2) := bc BK244 2
                              have hcz56_3 : wr.cell? ⟨gb244, 3, none⟩ = some (.int .i64 a0_3) := bc BK244 3
                              have hfz56_0 := blk_frozen BK244.out 0
                              have hfz56_1 := blk_frozen BK244.out 1
                              have hfz56_2 := blk_frozen BK244.out 2
                              have hfz56_3 := blk_frozen BK244.out 3
                              have p252 : 0 ≤ (x6_4 : Int) := of_decide_eq_true (by first | (with_reducible assumption) | assumption)
                              have q252 : x6_4 < (l0_2.length : Int) := of_decide_eq_true (by first | (with_reducible assumption) | assumption)
                              obtain ⟨ad252, e252, hx252_0, hx252_1, hx252_2⟩ := at_T41 HR0_2.out x6_4 p252 q252
                              cases e252
                              replace hx252_0 := (HB.out.cell (World.block_lt_of_cell? w _ hx252_0)).trans hx252_0
                              replace hx252_1 := (HB.out.cell (World.block_lt_of_cell? w _ hx252_1)).trans hx252_1
                              replace hx252_2 := (HB.out.cell (World.block_lt_of_cell? w _ hx252_2)).trans hx252_2
                              replace p252 := eq_true p252
                              replace q252 := eq_true q252
                              go_wp2
                              repeat (go_quiet (fail); try go_wp2)
                              go_loopg [7] k4 (fun kq v7 w' => ∃ (x7_5 : Int), v7 = .int .i64 x7_5 ∧ Aside0 (damperref2_Route.l2 kq (wrap64 (x5_4 + ((rd_T41 l0_2 x6_4).f2))) x6_4 x7_5 a0_0 a0_1 l0_2 a0_3 = some r) ∧ Aside0 (kq ≤ k4) ∧ Aside0 (w'.heap[gb244]? = some (.cells #[.string a0_0, .string a0_1, (.slice (some ad252) l0_2.length c0_2), .int .i64 a0_3] 35 (0, 0))) ∧ Aside0 (Below w.heap.size w w'))
                              case atStart => exact ⟨(0), (by first | rfl | (simp; done) | (simp [*]; done)), H', ⟨Nat.le_refl _⟩, ⟨by (with_reducible repeat (first | refine blk_drewN ?_ _ | refine blk_drew ?_ | refine blk_alloc ?_ _)); exact BK244.out⟩, ⟨by repeat (first | (with_reducible first | exact HB.out | apply below_alloc | apply pw_below_drewN | apply below_drew1 | refine below_set ?_ GE244.out) | exact HB.out)⟩⟩
                              case round =>
                                clear H'
                                try clear c1
                                try clear c2
                                try clear p2
                                try clear q2
                                try clear hx2
                                try clear c3
                                try clear c4
                                try clear c5
                                try clear p6
                                try clear c9
                                try clear c11
                                try clear c11b0
                                try clear c11b1
                                try clear c14
                                try clear c15
                                try clear c15b0
                                try clear c15b1
                                try clear c17
                                try clear c17b0
                                try clear c17b1
                                try clear c20
                                try clear c20b0
                                try clear c21
                                try clear c21b0
                                try clear p24
                                try clear q24
                                try clear hx24
                                try clear c25
                                try clear p25
                                try clear q25
                                try clear hx25
                                try clear c27
                                try clear c27b0
                                try clear c27b1
                                try clear c28
                                try clear c28b0
                                try clear c28b1
                                try clear c29
                                try clear c32
                                try clear c35
                                try clear c36
                                try clear c36b0
                                try clear c36b1
                                try clear c37
                                try clear c40
                                try clear c42
                                try clear c44
                                try clear c45
                                try clear c45b0
                                try clear c46
                                try clear c48
                                try clear c48b0
                                try clear c49
                                try clear c51
                                try clear c54
                                try clear c54b0
                                try clear c55
                                try clear c55b0
                                try clear hcz12_0
                                try clear hcz12_1
                                try clear hcz12_2
                                try clear hcz12_3
                                try clear hcz13_0
                                try clear hcz13_1
                                try clear hcz13_2
                                try clear hcz13_3
                                try clear hcz16_0
                                try clear hcz16_1
                                try clear hcz16_2
                                try clear hcz16_3
                                try clear hcz18_0
                                try clear hcz18_1
                                try clear hcz18_2
                                try clear hcz18_3
                                try clear hcz19_0
                                try clear hcz19_1
                                try clear hcz19_2
                                try clear hcz19_3
                                try clear hcz23_0
                                try clear hcz23_1
                                try clear hcz23_2
                                try clear hcz23_3
                                try clear hcz26_0
                                try clear hcz26_1
                                try clear hcz26_2
                                try clear hcz30_0
                                try clear hcz30_1
                                try clear hcz30_2
                                try clear hcz33_0
                                try clear hcz33_1
                                try clear hcz33_2
                                try clear hcz38_0
                                try clear hcz38_1
                                try clear hcz38_2
                                try clear hcz41_0
                                try clear hcz41_1
                                try clear hcz41_2
                                try clear hcz43_0
                                try clear hcz43_1
                                try clear hcz43_2
                                try clear hcz47_0
                                try clear hcz47_1
                                try clear hcz47_2
                                try clear hcz50_0
                                try clear hcz50_1
                                try clear hcz50_2
                                try clear hcz52_0
                                try clear hcz52_1
                                try clear hcz52_2
                                try clear hcz53_0
                                try clear hcz53_1
                                try clear hcz53_2
                                try clear hcz53_3
                                try clear hcz56_0
                                try clear hcz56_1
                                try clear hcz56_2
                                try clear hcz56_3
                                try clear hcz7_0
                                try clear hcz7_1
                                try clear hcz7_2
                                try clear hcz7_3
                                try clear hcz8_0
                                try clear hcz8_1
                                try clear hcz8_2
                                try clear hcz8_3
                                try clear hfz12_0
                                try clear hfz12_1
                                try clear hfz12_2
                                try clear hfz12_3
                                try clear hfz13_0
                                try clear hfz13_1
                                try clear hfz13_2
                                try clear hfz13_3
                                try clear hfz16_0
                                try clear hfz16_1
                                try clear hfz16_2
                                try clear hfz16_3
                                try clear hfz18_0
                                try clear hfz18_1
                                try clear hfz18_2
                                try clear hfz18_3
                                try clear hfz19_0
                                try clear hfz19_1
                                try clear hfz19_2
                                try clear hfz19_3
                                try clear hfz23_0
                                try clear hfz23_1
                                try clear hfz23_2
                                try clear hfz23_3
                                try clear hfz26_0
                                try clear hfz26_1
                                try clear hfz26_2
                                try clear hfz30_0
                                try clear hfz30_1
                                try clear hfz30_2
                                try clear hfz33_0
                                try clear hfz33_1
                                try clear hfz33_2
                                try clear hfz38_0
                                try clear hfz38_1
                                try clear hfz38_2
                                try clear hfz41_0
                                try clear hfz41_1
                                try clear hfz41_2
                                try clear hfz43_0
                                try clear hfz43_1
                                try clear hfz43_2
                                try clear hfz47_0
                                try clear hfz47_1
                                try clear hfz47_2
                                try clear hfz50_0
                                try clear hfz50_1
                                try clear hfz50_2
                                try clear hfz52_0
                                try clear hfz52_1
                                try clear hfz52_2
                                try clear hfz53_0
                                try clear hfz53_1
                                try clear hfz53_2
                                try clear hfz53_3
                                try clear hfz56_0
                                try clear hfz56_1
                                try clear hfz56_2
                                try clear hfz56_3
                                try clear hfz7_0
                                try clear hfz7_1
                                try clear hfz7_2
                                try clear hfz7_3
                                try clear hfz8_0
                                try clear hfz8_1
                                try clear hfz8_2
                                try clear hfz8_3
                                try clear hx247_0
                                try clear hx247_1
                                try clear hx247_2
                                try clear hx252_0
                                try clear hx252_1
                                try clear hx252_2
                                try clear p2
                                try clear p24
                                try clear p247
                                try clear p252
                                try clear p6
                                try clear q2
                                try clear q24
                                try clear q247
                                try clear q252
                                obtain ⟨x7_5, rfl, HA, HK5, BK244, HB⟩ := hrel
                                cases gk with
                                | zero => exact absurd HA.out (by simp [damperref2_Route.l2])
                                | succ k5 =>
                                  have H := HA.out
                                  clear HA
                                  simp only [damperref2_Route.l2] at H
                                  by_cases c57 : x7_5 < x6_4
                                  · rw [if_pos c57] at H
                                    have c57b0 : decide (x7_5 < x6_4) = true := decide_eq_true c57
                                    clear c57
                                    by_cases c58 : 0 ≤ x6_4
                                    rotate_left
                                    · rw [if_neg c58] at H
                                      exact absurd H (by simp)
                                    rw [if_pos c58] at H
                                    have c58b0 : decide (0 ≤ x6_4) = true := decide_eq_true c58
                                    clear c58
                                    by_cases c59 : x6_4 < (l0_2.length : Int)
                                    rotate_left
                                    · rw [if_neg c59] at H
                                      exact absurd H (by simp)
                                    rw [if_pos c59] at H
                                    have c59b0 : decide (x6_4 < (l0_2.length : Int)) = true := decide_eq_true c59
                                    clear c59
                                    by_cases c60 : ((rd_T41 l0_2 x6_4).f1).toList = ([] : List UInt8)
                                    · rw [if_pos c60] at H
                                      have c60b0 : (((rd_T41 l0_2 x6_4).f1).toList == ([] : List UInt8)) = true := beq_iff_eq.mpr c60
                                      have c60b1 : (((rd_T41 l0_2 x6_4).f1).toList != ([] : List UInt8)) = false := bne_eq_false_iff_eq.mpr c60
                                      clear c60
                                      have H' := Aside0.mk H
                                      clear H
                                      have hcz61_0 : wr.cell? ⟨gb244, 0, none⟩ = some (.string a0_0) := bc BK244 0
                                      have hcz61_1 : wr.cell? ⟨gb244, 1, none⟩ = some (.string a0_1) := bc BK244 1
                                      have hcz61_2 : wr.cell? ⟨gb244, 2, none⟩ = some (.slice (some ad252) l0_2.length c0_2) := bc BK244 2
                                      have hcz61_3 : wr.cell? ⟨gb244, 3, none⟩ = some (.int .i64 a0_3) := bc BK244 3
                                      have hfz61_0 := blk_frozen BK244.out 0
                                      have hfz61_1 := blk_frozen BK244.out 1
                                      have hfz61_2 := blk_frozen BK244.out 2
                                      have hfz61_3 := blk_frozen BK244.out 3
                                      have p253 : 0 ≤ (x6_4 : Int) := of_decide_eq_true (by first | (with_reducible assumption) | assumption)
                                      have q253 : x6_4 < (l0_2.length : Int) := of_decide_eq_true (by first | (with_reducible assumption) | assumption)
                                      obtain ⟨ad253, e253, hx253_0, hx253_1, hx253_2⟩ := at_T41 HR0_2.out x6_4 p253 q253
                                      obtain rfl : ad252 = ad253 := (by injection e253)
                                      replace hx253_0 := (HB.out.cell (World.block_lt_of_cell? w _ hx253_0)).trans hx253_0
                                      replace hx253_1 := (HB.out.cell (World.block_lt_of_cell? w _ hx253_1)).trans hx253_1
                                      replace hx253_2 := (HB.out.cell (World.block_lt_of_cell? w _ hx253_2)).trans hx253_2
                                      replace p253 := eq_true p253
                                      replace q253 := eq_true q253
                                      go_wp2
                                      repeat (go_quiet (fail); try go_wp2)
                                      go_roundg k5
                                      case measure => have := HJ1.out; have := HJ9.out; have := HK3.out; have := HK4.out; have := HK5.out; omega
                                      case rel => exact ⟨(wrap64 (x7_5 + 1)), (by first | rfl | (simp; done) | (simp [*]; done)), H', ⟨by have := HJ1.out; have := HJ9.out; have := HK3.out; have := HK4.out; have := HK5.out; omega⟩, ⟨by (with_reducible repeat (first | refine blk_drewN ?_ _ | refine blk_drew ?_ | refine blk_alloc ?_ _)); exact BK244.out⟩, ⟨by repeat (first | (with_reducible first | exact HB.out | apply below_alloc | apply pw_below_drewN | apply below_drew1 | refine below_set ?_ GE244.out) | exact HB.out)⟩⟩
                                    · rw [if_neg c60] at H
                                      have c60b0 : (((rd_T41 l0_2 x6_4).f1).toList == ([] : List UInt8)) = false := beq_eq_false_iff_ne.mpr c60
                                      have c60b1 : (((rd_T41 l0_2 x6_4).f1).toList != ([] : List UInt8)) = true := bne_iff_ne.mpr c60
                                      by_cases c62 : 0 ≤ x7_5
                                      rotate_left
                                      · rw [if_neg c62] at H
                                        exact absurd H (by simp)
                                      rw [if_pos c62] at H
                                      have c62b0 : decide (0 ≤ x7_5) = true := decide_eq_true c62
                                      clear c62
                                      by_cases c63 : x7_5 < (l0_2.length : Int)
                                      rotate_left
                                      · rw [if_neg c63] at H
                                        exact absurd H (by simp)
                                      rw [if_pos c63] at H
                                      have c63b0 : decide (x7_5 < (l0_2.length : Int)) = true := decide_eq_true c63
                                      clear c63
                                      by_cases c64 : ((rd_T41 l0_2 x6_4).f1).toList = ((rd_T41 l0_2 x7_5).f1).toList
                                      · rw [if_pos c64] at H
                                        have c64b0 : (((rd_T41 l0_2 x6_4).f1).toList == ((rd_T41 l0_2 x7_5).f1).toList) = true := beq_iff_eq.mpr c64
                                        have c64b1 : (((rd_T41 l0_2 x6_4).f1).toList != ((rd_T41 l0_2 x7_5).f1).toList) = false := bne_eq_false_iff_eq.mpr c64
                                        clear c64
                                        obtain rfl := Option.some.inj H
                                        have hcz65_0 : wr.cell? ⟨gb244, 0, none⟩ = some (.string a0_0) := bc BK244 0
                                        have hcz65_1 : wr.cell? ⟨gb244, 1, none⟩ = some (.string a0_1) := bc BK244 1
                                        have hcz65_2 : wr.cell? ⟨gb244, 2, none⟩ = some (.slice (some ad252) l0_2.length c0_2) := bc BK244 2
                                        have hcz65_3 : wr.cell? ⟨gb244, 3, none⟩ = some (.int .i64 a0_3) := bc BK244 3
                                        have hfz65_0 := blk_frozen BK244.out 0
                                        have hfz65_1 := blk_frozen BK244.out 1
                                        have hfz65_2 := blk_frozen BK244.out 2
                                        have hfz65_3 := blk_frozen BK244.out 3
                                        have p253 : 0 ≤ (x6_4 : Int) := of_decide_eq_true (by first | (with_reducible assumption) | assumption)
                                        have q253 : x6_4 < (l0_2.length : Int) := of_decide_eq_true (by first | (with_reducible assumption) | assumption)
                                        obtain ⟨ad253, e253, hx253_0, hx253_1, hx253_2⟩ := at_T41 HR0_2.out x6_4 p253 q253
                                        obtain rfl : ad252 = ad253 := (by injection e253)
                                        replace hx253_0 := (HB.out.cell (World.block_lt_of_cell? w _ hx253_0)).trans hx253_0
                                        replace hx253_1 := (HB.out.cell (World.block_lt_of_cell? w _ hx253_1)).trans hx253_1
                                        replace hx253_2 := (HB.out.cell (World.block_lt_of_cell? w _ hx253_2)).trans hx253_2
                                        replace p253 := eq_true p253
                                        replace q253 := eq_true q253
                                        have p254 : 0 ≤ (x6_4 : Int) := of_decide_eq_true (by first | (with_reducible assumption) | assumption)
                                        have q254 : x6_4 < (l0_2.length : Int) := of_decide_eq_true (by first | (with_reducible assumption) | assumption)
                                        obtain ⟨ad254, e254, hx254_0, hx254_1, hx254_2⟩ := at_T41 HR0_2.out x6_4 p254 q254
                                        obtain rfl : ad252 = ad254 := (by injection e254)
                                        replace hx254_0 := (HB.out.cell (World.block_lt_of_cell? w _ hx254_0)).trans hx254_0
                                        replace hx254_1 := (HB.out.cell (World.block_lt_of_cell? w _ hx254_1)).trans hx254_1
                                        replace hx254_2 := (HB.out.cell (World.block_lt_of_cell? w _ hx254_2)).trans hx254_2
                                        replace p254 := eq_true p254
                                        replace q254 := eq_true q254
                                        have p255 : 0 ≤ (x7_5 : Int) := of_decide_eq_true (by first | (with_reducible assumption) | assumption)
                                        have q255 : x7_5 < (l0_2.length : Int) := of_decide_eq_true (by first | (with_reducible assumption) | assumption)
                                        obtain ⟨ad255, e255, hx255_0, hx255_1, hx255_2⟩ := at_T41 HR0_2.out x7_5 p255 q255
                                        obtain rfl : ad252 = ad255 := (by injection e255)
                                        replace hx255_0 := (HB.out.cell (World.block_lt_of_cell? w _ hx255_0)).trans hx255_0
                                        replace hx255_1 := (HB.out.cell (World.block_lt_of_cell? w _ hx255_1)).trans hx255_1
                                        replace hx255_2 := (HB.out.cell (World.block_lt_of_cell? w _ hx255_2)).trans hx255_2
                                        replace p255 := eq_true p255
                                        replace q255 := eq_true q255
                                        go_wp2
                                        repeat (go_quiet (fail); try go_wp2)
                                        go_ret
                                        exact ⟨by first | rfl | (simp [errW_none, errW_some] <;> rfl) | (simp [*, errW_none, errW_some] <;> rfl), by repeat (first | (with_reducible first | exact HB.out | apply below_alloc | apply pw_below_drewN | apply below_drew1 | refine below_set ?_ GE244.out) | exact HB.out)⟩
                                      · rw [if_neg c64] at H
                                        have c64b0 : (((rd_T41 l0_2 x6_4).f1).toList == ((rd_T41 l0_2 x7_5).f1).toList) = false := beq_eq_false_iff_ne.mpr c64
                                        have c64b1 : (((rd_T41 l0_2 x6_4).f1).toList != ((rd_T41 l0_2 x7_5).f1).toList) = true := bne_iff_ne.mpr c64
                                        have H' := Aside0.mk H
                                        clear H
                                        have hcz66_0 : wr.cell? ⟨gb244, 0, none⟩ = some (.string a0_0) := bc BK244 0
                                        have hcz66_1 : wr.cell? ⟨gb244, 1, none⟩ = some (.string a0_1) := bc BK244 1
                                        have hcz66_2 : wr.cell? ⟨gb244, 2, none⟩ = some (.slice (some ad252) l0_2.length c0_2) := bc BK244 2
                                        have hcz66_3 : wr.cell? ⟨gb244, 3, none⟩ = some (.int .i64 a0_3) := bc BK244 3
                                        have hfz66_0 := blk_frozen BK244.out 0
                                        have hfz66_1 := blk_frozen BK244.out 1
                                        have hfz66_2 := blk_frozen BK244.out 2
                                        have hfz66_3 := blk_frozen BK244.out 3
                                        have p253 : 0 ≤ (x6_4 : Int) := of_decide_eq_true (by first | (with_reducible assumption) | assumption)
                                        have q253 : x6_4 < (l0_2.length : Int) := of_decide_eq_true (by first | (with_reducible assumption) | assumption)
                                        obtain ⟨ad253, e253, hx253_0, hx253_1, hx253_2⟩ := at_T41 HR0_2.out x6_4 p253 q253
                                        obtain rfl : ad252 = ad253 := (by injection e253)
                                        replace hx253_0 := (HB.out.cell (World.block_lt_of_cell? w _ hx253_0)).trans hx253_0
                                        replace hx253_1 := (HB.out.cell (World.block_lt_of_cell? w _ hx253_1)).trans hx253_1
                                        replace hx253_2 := (HB.out.cell (World.block_lt_of_cell? w _ hx253_2)).trans hx253_2
                                        replace p253 := eq_true p253
                                        replace q253 := eq_true q253
                                        have p254 : 0 ≤ (x6_4 : Int) := of_decide_eq_true (by first | (with_reducible assumption) | assumption)
                                        have q254 : x6_4 < (l0_2.length : Int) := of_decide_eq_true (by first | (with_reducible assumption) | assumption)
                                        obtain ⟨ad254, e254, hx254_0, hx254_1, hx254_2⟩ := at_T41 HR0_2.out x6_4 p254 q254
                                        obtain rfl : ad252 = ad254 := (by injection e254)
                                        replace hx254_0 := (HB.out.cell (World.block_lt_of_cell? w _ hx254_0)).trans hx254_0
                                        replace hx254_1 := (HB.out.cell (World.block_lt_of_cell? w _ hx254_1)).trans hx254_1
                                        replace hx254_2 := (HB.out.cell (World.block_lt_of_cell? w _ hx254_2)).trans hx254_2
                                        replace p254 := eq_true p254
                                        replace q254 := eq_true q254
                                        have p255 : 0 ≤ (x7_5 : Int) := of_decide_eq_true (by first | (with_reducible assumption) | assumption)
                                        have q255 : x7_5 < (l0_2.length : Int) := of_decide_eq_true (by first | (with_reducible assumption) | assumption)
                                        obtain ⟨ad255, e255, hx255_0, hx255_1, hx255_2⟩ := at_T41 HR0_2.out x7_5 p255 q255
                                        obtain rfl : ad252 = ad255 := (by injection e255)
                                        replace hx255_0 := (HB.out.cell (World.block_lt_of_cell? w _ hx255_0)).trans hx255_0
                                        replace hx255_1 := (HB.out.cell (World.block_lt_of_cell? w _ hx255_1)).trans hx255_1
                                        replace hx255_2 := (HB.out.cell (World.block_lt_of_cell? w _ hx255_2)).trans hx255_2
                                        replace p255 := eq_true p255
                                        replace q255 := eq_true q255
                                        go_wp2
                                        repeat (go_quiet (fail); try go_wp2)
                                        go_roundg k5
                                        case measure => have := HJ1.out; have := HJ9.out; have := HK3.out; have := HK4.out; have := HK5.out; omega
                                        case rel => exact ⟨(wrap64 (x7_5 + 1)), (by first | rfl | (simp; done) | (simp [*]; done)), H', ⟨by have := HJ1.out; have := HJ9.out; have := HK3.out; have := HK4.out; have := HK5.out; omega⟩, ⟨by (with_reducible repeat (first | refine blk_drewN ?_ _ | refine blk_drew ?_ | refine blk_alloc ?_ _)); exact BK244.out⟩, ⟨by repeat (first | (with_reducible first | exact HB.out | apply below_alloc | apply pw_below_drewN | apply below_drew1 | refine below_set ?_ GE244.out) | exact HB.out)⟩⟩
                                  · rw [if_neg c57] at H
                                    have c57b0 : decide (x7_5 < x6_4) = false := decide_eq_false c57
                                    clear c57
                                    have H' := Aside0.mk H
                                    clear H
                                    go_wp2
                                    repeat (go_quiet (fail); try go_wp2)
                                    go_roundg k5
                                    case measure => have := HJ1.out; have := HJ9.out; have := HK3.out; have := HK4.out; have := HK5.out; omega
                                    case rel => exact ⟨((wrap64 (x5_4 + ((rd_T41 l0_2 x6_4).f2)))), (wrap64 (x6_4 + 1)), (by first | rfl | (simp; done) | (simp [*]; done)), (by first | rfl | (simp; done) | (simp [*]; done)), H', ⟨by have := HJ1.out; have := HJ9.out; have := HK3.out; have := HK4.out; have := HK5.out; omega⟩, ⟨by (with_reducible repeat (first | refine blk_drewN ?_ _ | refine blk_drew ?_ | refine blk_alloc ?_ _)); exact BK244.out⟩, ⟨by repeat (first | (with_reducible first | exact HB.out | apply below_alloc | apply pw_below_drewN | apply below_drew1 | refine below_set ?_ GE244.out) | exact HB.out)⟩⟩
                            · rw [if_neg c54] at H
                              have c54b0 : decide (x6_4 < (l0_2.length : Int)) = false := decide_eq_false c54
                              clear c54
                              by_cases c67 : x5_4 = 100
                              · rw [if_pos c67] at H
                                have c67b0 : (x5_4 == 100) = true := beq_iff_eq.mpr c67
                                have c67b1 : (x5_4 != 100) = false := bne_eq_false_iff_eq.mpr c67
                                clear c67
                                obtain rfl := Option.some.inj H
                                have hcz68_0 : wr.cell? ⟨gb244, 0, none⟩ = some (.string a0_0) := bc BK244 0
                                have hcz68_1 : wr.cell? ⟨gb244, 1, none⟩ = some (.string a0_1) := bc BK244 1
                                have hcz68_2 : wr.cell? ⟨gb244, 2, none⟩ = some (.slice A0_2 l0_2.length c0_2) := bc BK244 2
                                have hcz68_3 : wr.cell? ⟨gb244, 3, none⟩ = some (.int .i64 a0_3) := bc BK244 3
                                have hfz68_0 := blk_frozen BK244.out 0
                                have hfz68_1 := blk_frozen BK244.out 1
                                have hfz68_2 := blk_frozen BK244.out 2
                                have hfz68_3 := blk_frozen BK244.out 3
                                go_wp2
                                repeat (go_quiet (fail); try go_wp2)
                                go_ret
                                exact ⟨by first | rfl | (simp [errW_none, errW_some] <;> rfl) | (simp [*, errW_none, errW_some] <;> rfl), by repeat (first | (with_reducible first | exact HB.out | apply below_alloc | apply pw_below_drewN | apply below_drew1 | refine below_set ?_ GE244.out) | exact HB.out)⟩
                              · rw [if_neg c67] at H
                                have c67b0 : (x5_4 == 100) = false := beq_eq_false_iff_ne.mpr c67
                                have c67b1 : (x5_4 != 100) = true := bne_iff_ne.mpr c67
                                obtain rfl := Option.some.inj H
                                have hcz69_0 : wr.cell? ⟨gb244, 0, none⟩ = some (.string a0_0) := bc BK244 0
                                have hcz69_1 : wr.cell? ⟨gb244, 1, none⟩ = some (.string a0_1) := bc BK244 1
                                have hcz69_2 : wr.cell? ⟨gb244, 2, none⟩ = some (.slice A0_2 l0_2.length c0_2) := bc BK244 2
                                have hcz69_3 : wr.cell? ⟨gb244, 3, none⟩ = some (.int .i64 a0_3) := bc BK244 3
                                have hfz69_0 := blk_frozen BK244.out 0
                                have hfz69_1 := blk_frozen BK244.out 1
                                have hfz69_2 := blk_frozen BK244.out 2
                                have hfz69_3 := blk_frozen BK244.out 3
                                go_wp2
                                repeat (go_quiet (fail); try go_wp2)
                                go_ret
                                exact ⟨by first | rfl | (simp [errW_none, errW_some] <;> rfl) | (simp [*, errW_none, errW_some] <;> rfl), by repeat (first | (with_reducible first | exact HB.out | apply below_alloc | apply pw_below_drewN | apply below_drew1 | refine below_set ?_ GE244.out) | exact HB.out)⟩

end Go.Proofs.YthdpnbfjpbiieaaDoor.Ma
