-- Written by a program of this session (wip/tools/myprint.py), in the form of the kit's print. Not trusted: Lean checks it.
import Derived.Test.YtckcimahclpdfaaDoorMax0
import Derived.Test.YtckcimahclpdfaaDoorMax7
import Derived.Test.YtckcimahclpdfaaDoorMax8
import Derived.Test.YtckcimahclpdfaaDoorMax9
import Derived.Test.YtckcimahclpdfaaDoorMax10
namespace Go.Proofs.YtckcimahclpdfaaDoor.Ma
open Go.RowKit Go.Proofs.YtckcimahclpdfaaDoorW.PrintWords Go.Proofs.YtckcimahclpdfaaDoorW.PrintLast Go.Proofs.YtckcimahclpdfaaDoorW.PrintMore
attribute [local go_sem] max2_int min2_int max_two min_two max_three min_three max_four min_four   -- for this text's walks alone
set_option linter.unusedVariables false
set_option linter.unusedSimpArgs false

/-! ### damperlaw5_TableShift: function 5 -/
def damperlaw5_TableShift.l0 : Nat → Int → Int → ByteArray → Bool → Int → List (S32) → List (S35) → Option (Bool)
  | 0, _, _, _, _, _, _, _ => none
  | k + 1, x2, x8, x9, x10, x11, x311000, x311001 => if x11 < (x311000.length : Int) then (if x10 = true then (damperlaw5_TableShift.l0 k x2 x8 x9 true (wrap64 (x11 + 1)) x311000 x311001) else (if 0 ≤ x11 then (damperlaw5_TableShift.l0 k x2 x8 x9 (((rd_T32 x311000 x11).f0).toList == x9.toList) (wrap64 (x11 + 1)) x311000 x311001) else (none))) else (if x10 = true then ((table_Pick.f k x311000 x311001 (wrap64 (x8 + (wrap64 (100 * (wi x2 1000)))))).bind fun t313 => (if t313.toList = x9.toList then ((table_Pick.f k x311000 x311001 (wrap64 (x8 - (wrap64 (100 * (wi x2 1000)))))).bind fun t314 => (some (t314.toList == x9.toList))) else (some false))) else (some false))
def damperlaw5_TableShift.f (k : Nat) (l0 : List Int) (a1 : Int) (a2 : Int) : Option (Bool) := (damperlaw5_known.f k).bind fun t303 => (if t303 = true then ((damperlaw5_Make.f k l0 ([] : List Int)).bind fun bt304 => ((table_Pick.f k bt304.1 bt304.2 (wi a1 1099511627776)).bind fun t311 => (damperlaw5_TableShift.l0 k a2 (wi a1 1099511627776) t311 false 0 bt304.1 bt304.2))) else (some false))
theorem damperlaw5_TableShift.mono_l : ∀ k, (∀ y0 y1 y2 y3 y4 y5 y6, LeO (damperlaw5_TableShift.l0 k y0 y1 y2 y3 y4 y5 y6) (damperlaw5_TableShift.l0 (k + 1) y0 y1 y2 y3 y4 y5 y6))
  | 0 => fun _ _ _ _ _ _ _ r h => by simp [damperlaw5_TableShift.l0] at h
  | k + 1 => by
    have ih0 := damperlaw5_TableShift.mono_l k
    · intro y0 y1 y2 y3 y4 y5 y6
      unfold damperlaw5_TableShift.l0
      repeat' first
      | (with_reducible exact ih0 _ _ _ _ _ _ _)
      | (with_reducible exact damperlaw5_Make.mono _ _ _)
      | (with_reducible exact damperlaw5_known.mono _)
      | (with_reducible exact table_Pick.mono _ _ _ _)
      | (with_reducible exact LeO.refl _)
      | (with_reducible exact LeO.none _)
      | (with_reducible refine LeO.ite ?_ ?_)
      | (with_reducible refine LeO.bind ?_ (fun _ => ?_))
      | exact ih0 _ _ _ _ _ _ _
      | exact damperlaw5_Make.mono _ _ _
      | exact damperlaw5_known.mono _
      | exact table_Pick.mono _ _ _ _
      | exact LeO.none _
      | refine LeO.ite ?_ ?_
      | refine LeO.bind ?_ (fun _ => ?_)
theorem damperlaw5_TableShift.mono : ∀ a0 a1 a2 k, LeO (damperlaw5_TableShift.f k a0 a1 a2) (damperlaw5_TableShift.f (k + 1) a0 a1 a2) := by
  intro a0 a1 a2 k
  have ih0 := damperlaw5_TableShift.mono_l k
  unfold damperlaw5_TableShift.f
  repeat' first
      | (with_reducible exact ih0 _ _ _ _ _ _ _)
      | (with_reducible exact damperlaw5_Make.mono _ _ _)
      | (with_reducible exact damperlaw5_known.mono _)
      | (with_reducible exact table_Pick.mono _ _ _ _)
      | (with_reducible exact LeO.refl _)
      | (with_reducible exact LeO.none _)
      | (with_reducible refine LeO.ite ?_ ?_)
      | (with_reducible refine LeO.bind ?_ (fun _ => ?_))
      | exact ih0 _ _ _ _ _ _ _
      | exact damperlaw5_Make.mono _ _ _
      | exact damperlaw5_known.mono _
      | exact table_Pick.mono _ _ _ _
      | exact LeO.none _
      | refine LeO.ite ?_ ?_
      | refine LeO.bind ?_ (fun _ => ?_)
def damperlaw5_TableShift.T11 : Bool × List (List Nat × List Nat) := (true, [([], []), ([0], [0]), ([1], [1]), ([1], [1]), ([1], [1]), ([4, 1, 1], [1, 4]), ([5, 1], [1, 5]), ([3, 6, 1], [1, 3, 6]), ([2, 7, 5, 1], [1, 2, 7]), ([1], [1]), ([8, 9, 1], [1, 8, 9]), ([1, 10], [1, 10]), ([11, 8], [11]), ([12], [12]), ([12], [12]), ([12], [12]), ([15, 12, 12], [12, 15]), ([16, 12], [12, 16]), ([14, 17, 12], [12, 14, 17]), ([13, 18, 16, 12], [12, 13, 18]), ([12], [12]), ([19, 20, 12], [12, 19, 20]), ([12, 21], [12, 21]), ([22, 19, 0, 1, 2, 3, 4, 5, 6, 7, 8, 9, 10, 11, 12, 13, 14, 15, 16, 17, 18, 19, 20, 21, 22], [22])])
def damperlaw5_TableShift.B11 : List Nat := [0, 1, 3, 3, 3, 19, 51, 123, 255, 3, 1023, 2047, 4095, 8191, 8191, 8191, 40959, 106495, 253951, 524287, 8191, 2097151, 4194303, 8388607]
theorem damperlaw5_TableShift.tab11 : rtab .any (opsOf Tryd.f5 11) = damperlaw5_TableShift.T11 := by kernel_rfl
theorem damperlaw5_TableShift.bits11 : waitsOk damperlaw5_TableShift.T11.2 damperlaw5_TableShift.B11 = true := by kernel_rfl
set_option maxHeartbeats 8000000 in
set_option maxRecDepth 100000 in
theorem damperlaw5_TableShift.calls (k : Nat) (A0 : Option Addr) (c0 : Nat) (l0 : List Int) (a1 : Int) (a2 : Int) (r : Bool) (w : World) (hLd_ : Aside0 (LaidW w)) (hr0 : Kd.C (Kd.int .i64) w A0 l0.length l0) (hc0 : l0.length ≤ c0) (hr0_ : Aside0 (r = true)) (h : damperlaw5_TableShift.f k l0 a1 a2 = some r) :
    Calls Tryd.prog 5 #[.slice A0 l0.length c0, .int .i64 a1, .int .i64 a2] w fun e w' => e = .returned (.bool r) ∧ Below w.heap.size w w' := by
  have hu25 := Tryd.underlying25
  have HR0 := Aside0.mk hr0
  have HC0 := Aside0.mk hc0
  clear hr0 hc0
  have HB := Aside0.mk (Below.refl w.heap.size w)
  have H : ((damperlaw5_known.f k).bind fun t303 => (if t303 = true then ((damperlaw5_Make.f k l0 ([] : List Int)).bind fun bt304 => ((table_Pick.f k bt304.1 bt304.2 (wi a1 1099511627776)).bind fun t311 => (damperlaw5_TableShift.l0 k a2 (wi a1 1099511627776) t311 false 0 bt304.1 bt304.2))) else (some false))) = some r := h
  clear h
  replace H := Option.bind_eq_some_iff.mp H
  obtain ⟨t303, A40, H⟩ := H
  replace H : (if t303 = true then ((damperlaw5_Make.f k l0 ([] : List Int)).bind fun bt304 => ((table_Pick.f k bt304.1 bt304.2 (wi a1 1099511627776)).bind fun t311 => (damperlaw5_TableShift.l0 k a2 (wi a1 1099511627776) t311 false 0 bt304.1 bt304.2))) else (some false)) = some r := H
  have A4 := Aside0.mk A40
  clear A40
  by_cases c5 : t303 = true
  · subst c5
    have H1 : ((damperlaw5_Make.f k l0 ([] : List Int)).bind fun bt304 => ((table_Pick.f k bt304.1 bt304.2 (wi a1 1099511627776)).bind fun t311 => (damperlaw5_TableShift.l0 k a2 (wi a1 1099511627776) t311 false 0 bt304.1 bt304.2))) = some r := by rw [if_pos rfl] at H; exact H
    clear H
    have H := H1
    clear H1
    replace H := Option.bind_eq_some_iff.mp H
    obtain ⟨⟨t304, t307⟩, A60, H⟩ := H
    replace H : ((table_Pick.f k t304 t307 (wi a1 1099511627776)).bind fun t311 => (damperlaw5_TableShift.l0 k a2 (wi a1 1099511627776) t311 false 0 t304 t307)) = some r := H
    have A6 := Aside0.mk A60
    clear A60
    obtain ⟨ji7, hji7⟩ : ∃ j_ : Int, (wi a1 1099511627776) = j_ := ⟨_, rfl⟩
    replace H : ((table_Pick.f k t304 t307 (ji7)).bind fun t311 => (damperlaw5_TableShift.l0 k a2 ji7 t311 false 0 t304 t307)) = some r := by first | (rw [hji7] at H; exact H) | (simp only [hji7] at H ⊢; exact H)
    (try rw [hji7] at A4)
    (try rw [hji7] at A6)
    replace H := Option.bind_eq_some_iff.mp H
    obtain ⟨t311, A80, H⟩ := H
    replace H : (damperlaw5_TableShift.l0 k a2 ji7 t311 false 0 t304 t307) = some r := H
    have A8 := Aside0.mk A80
    clear A80
    have H' := Aside0.mk H
    clear H
    go_enter Tryd.func5, Tryd.ntmps5
    go_wp2_with (first | (go_at_call 14; refine (damperlaw5_within.keep _ _ rfl (by first | decide | assumption | exact wi_ne (by assumption) | exact wi_ne' (by assumption) | omega) _).mono ?_; rintro e w' ⟨rfl, rfl⟩) | ((with_reducible refine gate_callee (f := 9) rfl ?_); refine goesL_ (some 12) rfl rfl Tryd.func9 (by kernel_rfl) rfl #[] rfl (by (try simp only [List.map_toArray, List.map_cons, List.map_nil]); first | done | rfl | (simp only [List.length_drop, List.length_take]; rfl)) ?_; (with_reducible refine (damperlaw5_known.calls k  true _ ?side1 A4.out).mono ?_); (case side1 => first | exact hLd_.out | exact hLd_ | exact ⟨LaidW.below hLd_.out (by repeat (first | (with_reducible first | exact HB.out | apply below_alloc | apply pw_below_drewN | apply below_drew1) | exact HB.out))⟩ | exact ⟨LaidW.below hLd_.out (by repeat (first | exact Below.refl _ _ | apply below_alloc | apply pw_below_drewN | apply below_drew1))⟩); rintro e w9 ⟨rfl, hb⟩; refine ⟨_, rfl, ?_⟩; have n0_ := Aside0.mk (below_step (by repeat (first | (with_reducible first | exact HB.out | apply below_alloc | apply pw_below_drewN | apply below_drew1) | exact HB.out)) hb); clear HB; have HB := n0_; clear n0_; (try clear hb); (try clear hb2); (try clear hk); (try clear hi)) | ((with_reducible refine gate_callee (f := 11) rfl ?_); refine goesL_ (some 15) rfl rfl Tryd.func11 (by kernel_rfl) rfl #[.slice A0 l0.length c0, .slice none 0 0] rfl (by (try simp only [List.map_toArray, List.map_cons, List.map_nil]); first | done | rfl | (simp only [List.length_drop, List.length_take]; rfl)) ?_; (refine (damperlaw5_Make.calls k _ _ l0 _ _ ([] : List Int) t304 t307 _ ?side1 ?side2 ?side3 ?side4 A6.out).mono ?_); (case side1 => repeat (first | exact (Kd.C_below HR0.out HB.out) | (with_reducible refine Kd.C_alloc ?_ _) | (with_reducible refine Kd.C_drewN ?_ _) | (with_reducible refine Kd.C_drew ?_))); (case side2 => exact HC0.out); (case side3 => exact Kd.C_nil _ _); (case side4 => exact Nat.le_refl _); rintro e w10 ⟨v305, v308, rfl, ho0, ho1, hb⟩; refine ⟨_, rfl, ?_⟩; have n0_ := Aside0.mk (Kd.R_lower ho0 (below_size (by repeat (first | (with_reducible first | exact HB.out | apply below_alloc | apply pw_below_drewN | apply below_drew1) | exact HB.out)))); have n1_ := Aside0.mk (Kd.R_lower ho1 (below_size (by repeat (first | (with_reducible first | exact HB.out | apply below_alloc | apply pw_below_drewN | apply below_drew1) | exact HB.out)))); have n2_ := Aside0.mk (below_step (by repeat (first | (with_reducible first | exact HB.out | apply below_alloc | apply pw_below_drewN | apply below_drew1) | exact HB.out)) hb); clear HB; have HO306 := n0_; have HO309 := n1_; have HB := n2_; clear n0_ n1_ n2_; (try clear hb); (try clear hb2); (try clear hk); (try clear hi); (try clear ho0); (try clear ho1)) | ((with_reducible refine gate_dst (N := 7) rfl ?_); refine box_event ?hg (N := 7) ?hd (cs := #[.slice none 0 0, .slice none 0 0]) (t := 25) ?hr ?_; (case hd => rfl); (case hg => rfl); (case hr => first | (go_simp; done) | (go_simp; rfl)); intro gb310 hg w11 hbox hb; have n0_ := Aside0.mk (Kd.R_below (by (with_reducible repeat (first | apply Kd.R_alloc | apply Kd.R_drewN | apply Kd.R_drew)); exact HO306.out) hb); have n1_ := Aside0.mk (Kd.R_below (by (with_reducible repeat (first | apply Kd.R_alloc | apply Kd.R_drewN | apply Kd.R_drew)); exact HO309.out) hb); have n2_ := Aside0.mk (below_step (by repeat (first | (with_reducible first | exact HB.out | apply below_alloc | apply pw_below_drewN | apply below_drew1) | exact HB.out)) hb); have n3_ := Aside0.mk (hbox); have n4_ := Aside0.mk ((by rw [hg]; exact (below_size (by repeat (first | (with_reducible first | exact HB.out | apply below_alloc | apply pw_below_drewN | apply below_drew1) | exact HB.out))) : w.heap.size ≤ gb310)); have n5_ := Aside0.mk ((by rw [hg]; exact (below_size (by repeat (first | (with_reducible first | exact HB.out | apply below_alloc | apply pw_below_drewN | apply below_drew1) | exact HB.out))) : w.heap.size ≤ gb310)); clear HO306; clear HO309; clear HB; have HO306 := n0_; have HO309 := n1_; have HB := n2_; have BK310 := n3_; have GW310 := n4_; have GE310 := n5_; clear n0_ n1_ n2_ n3_ n4_ n5_; clear hb hbox hg; obtain ⟨Ao12, co12, eo12⟩ := Kd.R_slice HO306.out; subst eo12; have hcz13_0 : w11.cell? ⟨gb310, 0, none⟩ = some (.slice none 0 0) := bc BK310 0; have hcz13_1 : w11.cell? ⟨gb310, 1, none⟩ = some (.slice none 0 0) := bc BK310 1; have hfz13_0 := blk_frozen BK310.out 0; have hfz13_1 := blk_frozen BK310.out 1; obtain ⟨Ao14, co14, eo14⟩ := Kd.R_slice HO309.out; subst eo14) | ((with_reducible refine gate_callee (f := 16) rfl ?_); refine goesL_ (some 20) rfl rfl Tryd.func16 (by kernel_rfl) rfl #[.agg #[.slice Ao12 t304.length co12, .slice Ao14 t307.length co14], .int .i64 ji7] rfl (by (try simp only [List.map_toArray, List.map_cons, List.map_nil]); first | done | (simp only [hji7]; rfl) | rfl | (simp only [List.length_drop, List.length_take]; rfl)) ?_; (with_reducible refine (table_Pick.calls k _ _ t304 _ _ t307 ji7 t311 _ ?side1 ?side2 ?side3 ?side4 A8.out).mono ?_); (case side1 => refine (Kd.R_reads' (e := 32) (base := w.heap.size) (ok := fun k_ => True) (n := t304.length) (c := co12) ?_).2.2; exact (by (with_reducible repeat (first | apply Kd.R_alloc | apply Kd.R_drewN | apply Kd.R_drew)); exact (Kd.R_mono (Kd.R_far (p := ⟨gb310, 1, none⟩) (Kd.R_far (p := ⟨gb310, 0, none⟩) (Kd.R_types HO306.out BK310.out (by decide)) (fun _ hk => hk.2) (.slice Ao12 t304.length co12)) (fun _ hk => hk.2) (.slice Ao14 t307.length co14)) (fun _ h_ => h_.1)))); (case side2 => exact (Kd.R_reads' HO306.out).2.1); (case side3 => refine (Kd.R_reads' (e := 35) (base := w.heap.size) (ok := fun k_ => True) (n := t307.length) (c := co14) ?_).2.2; exact (by (with_reducible repeat (first | apply Kd.R_alloc | apply Kd.R_drewN | apply Kd.R_drew)); exact (Kd.R_mono (Kd.R_far (p := ⟨gb310, 1, none⟩) (Kd.R_far (p := ⟨gb310, 0, none⟩) (Kd.R_types HO309.out BK310.out (by decide)) (fun _ hk => hk.2) (.slice Ao12 t304.length co12)) (fun _ hk => hk.2) (.slice Ao14 t307.length co14)) (fun _ h_ => h_.1)))); (case side4 => exact (Kd.R_reads' HO309.out).2.1); rintro e w15 ⟨rfl, hb⟩; refine ⟨_, rfl, ?_⟩; have n0_ := Aside0.mk (Kd.R_below (by (with_reducible repeat (first | apply Kd.R_alloc | apply Kd.R_drewN | apply Kd.R_drew)); exact (Kd.R_mono (Kd.R_far (p := ⟨gb310, 1, none⟩) (Kd.R_far (p := ⟨gb310, 0, none⟩) (Kd.R_types HO306.out BK310.out (by decide)) (fun _ hk => hk.2) (.slice Ao12 t304.length co12)) (fun _ hk => hk.2) (.slice Ao14 t307.length co14)) (fun _ h_ => h_.1))) hb); have n1_ := Aside0.mk (Kd.R_below (by (with_reducible repeat (first | apply Kd.R_alloc | apply Kd.R_drewN | apply Kd.R_drew)); exact (Kd.R_mono (Kd.R_far (p := ⟨gb310, 1, none⟩) (Kd.R_far (p := ⟨gb310, 0, none⟩) (Kd.R_types HO309.out BK310.out (by decide)) (fun _ hk => hk.2) (.slice Ao12 t304.length co12)) (fun _ hk => hk.2) (.slice Ao14 t307.length co14)) (fun _ h_ => h_.1))) hb); have n2_ := Aside0.mk (blk_below (g := gb310) (o := .cells #[.slice Ao12 t304.length co12, .slice Ao14 t307.length co14] 25 (0, 0)) (by (with_reducible repeat (first | refine blk_drewN ?_ _ | refine blk_drew ?_ | refine blk_alloc ?_ _)); refine blk_put (cs := #[.slice Ao12 t304.length co12, .slice none 0 0]) ?_ 1 _ rfl; (with_reducible repeat (first | refine blk_drewN ?_ _ | refine blk_drew ?_ | refine blk_alloc ?_ _)); refine blk_put (cs := #[.slice none 0 0, .slice none 0 0]) ?_ 0 _ rfl; (with_reducible repeat (first | refine blk_drewN ?_ _ | refine blk_drew ?_ | refine blk_alloc ?_ _)); exact BK310.out) hb); have n3_ := Aside0.mk (below_step (by repeat (first | (with_reducible first | exact HB.out | apply below_alloc | apply pw_below_drewN | apply below_drew1 | refine below_set ?_ GE310.out) | exact HB.out)) hb); clear HO306; clear HO309; clear BK310; clear HB; have HO306 := n0_; have HO309 := n1_; have BK310 := n2_; have HB := n3_; clear n0_ n1_ n2_ n3_; (try clear hb); (try clear hb2); (try clear hk); (try clear hi)))
    go_loopg [10, 11] k (fun kq v10 v11 w' => ∃ (x10_1 : Bool) (x11_1 : Int), v10 = .bool x10_1 ∧ v11 = .int .i64 x11_1 ∧ Aside0 (damperlaw5_TableShift.l0 kq a2 ji7 t311 x10_1 x11_1 t304 t307 = some r) ∧ Aside0 (kq ≤ k) ∧ Aside0 (Kd.R k32 32 w' w.heap.size (fun _ => True) (.slice Ao12 t304.length co12) t304) ∧ Aside0 (Kd.R k35 35 w' w.heap.size (fun _ => True) (.slice Ao14 t307.length co14) t307) ∧ Aside0 (w'.heap[gb310]? = some (.cells #[(.slice Ao12 t304.length co12), (.slice Ao14 t307.length co14)] 25 (0, 0))) ∧ Aside0 (Below w.heap.size w w'))
    case atStart => exact ⟨(false), (0), (by first | rfl | (simp; done) | (simp [*]; done)), (by first | rfl | (simp; done) | (simp [*]; done)), H', ⟨Nat.le_refl _⟩, ⟨by (with_reducible repeat (first | apply Kd.R_alloc | apply Kd.R_drewN | apply Kd.R_drew)); exact HO306.out⟩, ⟨by (with_reducible repeat (first | apply Kd.R_alloc | apply Kd.R_drewN | apply Kd.R_drew)); exact HO309.out⟩, ⟨by (with_reducible repeat (first | refine blk_drewN ?_ _ | refine blk_drew ?_ | refine blk_alloc ?_ _)); exact BK310.out⟩, ⟨by repeat (first | (with_reducible first | exact HB.out | apply below_alloc | apply pw_below_drewN | apply below_drew1 | refine below_set ?_ GE310.out) | exact HB.out)⟩⟩
    case round =>
      clear H'
      try clear c1
      try clear p2
      try clear c5
      try clear c9
      try clear c11
      try clear hcz13_0
      try clear hcz13_1
      try clear hfz13_0
      try clear hfz13_1
      obtain ⟨x10_1, x11_1, rfl, rfl, HA, HK1, HO_311000, HO_311001, BK310, HB⟩ := hrel
      cases gk with
      | zero => exact absurd HA.out (by simp [damperlaw5_TableShift.l0])
      | succ k1 =>
        have H := HA.out
        clear HA
        simp only [damperlaw5_TableShift.l0] at H
        by_cases c16 : x11_1 < (t304.length : Int)
        · rw [if_pos c16] at H
          have c16b0 : decide (x11_1 < (t304.length : Int)) = true := decide_eq_true c16
          clear c16
          by_cases c17 : x10_1 = true
          · subst c17
            have H1 : (damperlaw5_TableShift.l0 k1 a2 ji7 t311 true (wrap64 (x11_1 + 1)) t304 t307) = some r := by rw [if_pos rfl] at H; exact H
            clear H
            have H := H1
            clear H1
            have H' := Aside0.mk H
            clear H
            have hcz18_0 : wr.cell? ⟨gb310, 0, none⟩ = some (.slice Ao12 t304.length co12) := bc BK310 0
            have hcz18_1 : wr.cell? ⟨gb310, 1, none⟩ = some (.slice Ao14 t307.length co14) := bc BK310 1
            have hfz18_0 := blk_frozen BK310.out 0
            have hfz18_1 := blk_frozen BK310.out 1
            go_wp2_with (first | (go_at_call 14; refine (damperlaw5_within.keep _ _ rfl (by first | decide | assumption | exact wi_ne (by assumption) | exact wi_ne' (by assumption) | omega) _).mono ?_; rintro e w' ⟨rfl, rfl⟩))
            go_roundg k1
            case measure => have := HK1.out; omega
            case rel => exact ⟨(true), (wrap64 (x11_1 + 1)), (by first | rfl | (simp; done) | (simp [*]; done)), (by first | rfl | (simp; done) | (simp [*]; done)), H', ⟨by have := HK1.out; omega⟩, ⟨by (with_reducible repeat (first | apply Kd.R_alloc | apply Kd.R_drewN | apply Kd.R_drew)); exact HO_311000.out⟩, ⟨by (with_reducible repeat (first | apply Kd.R_alloc | apply Kd.R_drewN | apply Kd.R_drew)); exact HO_311001.out⟩, ⟨by (with_reducible repeat (first | refine blk_drewN ?_ _ | refine blk_drew ?_ | refine blk_alloc ?_ _)); exact BK310.out⟩, ⟨by repeat (first | (with_reducible first | exact HB.out | apply below_alloc | apply pw_below_drewN | apply below_drew1 | refine below_set ?_ GE310.out) | exact HB.out)⟩⟩
          · replace c17 := Bool.eq_false_iff.mpr c17
            subst c17
            have H1 : (if 0 ≤ x11_1 then (damperlaw5_TableShift.l0 k1 a2 ji7 t311 (((rd_T32 t304 x11_1).f0).toList == t311.toList) (wrap64 (x11_1 + 1)) t304 t307) else (none)) = some r := by rw [if_neg (show ¬ (false = true) by decide)] at H; exact H
            clear H
            have H := H1
            clear H1
            by_cases c19 : 0 ≤ x11_1
            rotate_left
            · rw [if_neg c19] at H
              exact absurd H (by simp)
            rw [if_pos c19] at H
            have c19b0 : decide (0 ≤ x11_1) = true := decide_eq_true c19
            clear c19
            have H' := Aside0.mk H
            clear H
            have hcz20_0 : wr.cell? ⟨gb310, 0, none⟩ = some (.slice Ao12 t304.length co12) := bc BK310 0
            have hcz20_1 : wr.cell? ⟨gb310, 1, none⟩ = some (.slice Ao14 t307.length co14) := bc BK310 1
            have hfz20_0 := blk_frozen BK310.out 0
            have hfz20_1 := blk_frozen BK310.out 1
            have p312 : 0 ≤ (x11_1 : Int) := of_decide_eq_true (by first | (with_reducible assumption) | assumption)
            have q312 : x11_1 < (t304.length : Int) := of_decide_eq_true (by first | (with_reducible assumption) | assumption)
            obtain ⟨ad312, e312, hx312_0, hx312_1⟩ := at_T32 (Kd.R_reads' HO_311000.out).2.2 x11_1 p312 q312
            cases e312
            replace p312 := eq_true p312
            replace q312 := eq_true q312
            go_wp2_with (first | (go_at_call 14; refine (damperlaw5_within.keep _ _ rfl (by first | decide | assumption | exact wi_ne (by assumption) | exact wi_ne' (by assumption) | omega) _).mono ?_; rintro e w' ⟨rfl, rfl⟩))
            go_roundg k1
            case measure => have := HK1.out; omega
            case rel => exact ⟨((((rd_T32 t304 x11_1).f0).toList == t311.toList)), (wrap64 (x11_1 + 1)), (by first | rfl | (simp; done) | (simp [*]; done)), (by first | rfl | (simp; done) | (simp [*]; done)), H', ⟨by have := HK1.out; omega⟩, ⟨by (with_reducible repeat (first | apply Kd.R_alloc | apply Kd.R_drewN | apply Kd.R_drew)); exact HO_311000.out⟩, ⟨by (with_reducible repeat (first | apply Kd.R_alloc | apply Kd.R_drewN | apply Kd.R_drew)); exact HO_311001.out⟩, ⟨by (with_reducible repeat (first | refine blk_drewN ?_ _ | refine blk_drew ?_ | refine blk_alloc ?_ _)); exact BK310.out⟩, ⟨by repeat (first | (with_reducible first | exact HB.out | apply below_alloc | apply pw_below_drewN | apply below_drew1 | refine below_set ?_ GE310.out) | exact HB.out)⟩⟩
        · rw [if_neg c16] at H
          have c16b0 : decide (x11_1 < (t304.length : Int)) = false := decide_eq_false c16
          clear c16
          by_cases c21 : x10_1 = true
          · subst c21
            have H1 : ((table_Pick.f k1 t304 t307 (wrap64 (ji7 + (wrap64 (100 * (wi a2 1000)))))).bind fun t313 => (if t313.toList = t311.toList then ((table_Pick.f k1 t304 t307 (wrap64 (ji7 - (wrap64 (100 * (wi a2 1000)))))).bind fun t314 => (some (t314.toList == t311.toList))) else (some false))) = some r := by rw [if_pos rfl] at H; exact H
            clear H
            have H := H1
            clear H1
            obtain ⟨ji22, hji22⟩ : ∃ j_ : Int, (wi a2 1000) = j_ := ⟨_, rfl⟩
            replace H : ((table_Pick.f k1 t304 t307 (wrap64 (ji7 + (wrap64 (100 * (ji22)))))).bind fun t313 => (if t313.toList = t311.toList then ((table_Pick.f k1 t304 t307 (wrap64 (ji7 - (wrap64 (100 * (ji22)))))).bind fun t314 => (some (t314.toList == t311.toList))) else (some false))) = some r := by first | (rw [hji22] at H; exact H) | (simp only [hji22] at H ⊢; exact H)
            replace H := Option.bind_eq_some_iff.mp H
            obtain ⟨t313, A230, H⟩ := H
            replace H : (if t313.toList = t311.toList then ((table_Pick.f k1 t304 t307 (wrap64 (ji7 - (wrap64 (100 * (ji22)))))).bind fun t314 => (some (t314.toList == t311.toList))) else (some false)) = some r := H
            have A23 := Aside0.mk A230
            clear A230
            by_cases c24 : t313.toList = t311.toList
            · rw [if_pos c24] at H
              have c24b0 : (t313.toList == t311.toList) = true := beq_iff_eq.mpr c24
              have c24b1 : (t313.toList != t311.toList) = false := bne_eq_false_iff_eq.mpr c24
              clear c24
              replace H := Option.bind_eq_some_iff.mp H
              obtain ⟨t314, A260, H⟩ := H
              replace H : (some (t314.toList == t311.toList)) = some r := H
              have A26 := Aside0.mk A260
              clear A260
              obtain rfl := Option.some.inj H
              have hcz27_0 : wr.cell? ⟨gb310, 0, none⟩ = some (.slice Ao12 t304.length co12) := bc BK310 0
              have hcz27_1 : wr.cell? ⟨gb310, 1, none⟩ = some (.slice Ao14 t307.length co14) := bc BK310 1
              have hfz27_0 := blk_frozen BK310.out 0
              have hfz27_1 := blk_frozen BK310.out 1
              try go_wp2_with (first | (go_at_call 14; refine (damperlaw5_within.keep _ _ rfl (by first | decide | assumption | exact wi_ne (by assumption) | exact wi_ne' (by assumption) | omega) _).mono ?_; rintro e w' ⟨rfl, rfl⟩))
              replace HO_311000 := Aside0.mk (Kd.R_drew HO_311000.out)
              replace HO_311001 := Aside0.mk (Kd.R_drew HO_311001.out)
              replace BK310 := Aside0.mk (blk_drew BK310.out)
              replace HB := Aside0.mk (below_drew1 HB.out)
              refine start_ (n := 24) (S := fun w' => w'.cell? ⟨gb310, 0, none⟩ = some (.slice Ao12 t304.length co12) ∧ w'.cell? ⟨gb310, 1, none⟩ = some (.slice Ao14 t307.length co14)) (ds := []) #[false, false, false, false, false, false, false, false, false, false, false, false, false, false, false, false, false, false, false, false, false, false, false, false] (by kernel_rfl) rfl rfl ⟨bc BK310 0, bc BK310 1⟩ (fun hHeld => ?_); refine with_tabW damperlaw5_TableShift.tab11 damperlaw5_TableShift.bits11 (fun HT_ HW_ => ?_)
              generalize wr.drew = w28 at HO_311000 HO_311001 BK310 HB hHeld ⊢
              refine pure_ (i := 0) (N := some 39) (v := ?_) (a' := ?_) #[true, false, false, false, false, false, false, false, false, false, false, false, false, false, false, false, false, false, false, false, false, false, false, false] rfl rfl (any_of HT_.out (by kernel_rfl)) (fun _ _ _ h => h) (Or.inl ⟨by rfl, ?_⟩) ?_ ?_
              rotate_left
              · intro w'
                go_simp
                with_reducible rfl
              rotate_left
              · simp only [Act.put, List.setIfInBounds_toArray, List.set_cons_zero, List.set_cons_succ, i64_w, i32_w]
                rfl
              refine pure_ (i := 1) (N := some 40) (v := ?_) (a' := ?_) #[true, true, false, false, false, false, false, false, false, false, false, false, false, false, false, false, false, false, false, false, false, false, false, false] rfl rfl (any_of HT_.out (by kernel_rfl)) (fun _ _ _ h => h) (Or.inl ⟨by rfl, ?_⟩) ?_ ?_
              rotate_left
              · intro w'
                go_simp
                with_reducible rfl
              rotate_left
              · simp only [Act.put, List.setIfInBounds_toArray, List.set_cons_zero, List.set_cons_succ, i64_w, i32_w]
                rfl
              refine pure_ (i := 3) (N := some 42) (v := ?_) (a' := ?_) #[true, true, false, true, false, false, false, false, false, false, false, false, false, false, false, false, false, false, false, false, false, false, false, false] rfl rfl (any_of HT_.out (by kernel_rfl)) (fun _ _ _ h => h) (Or.inl ⟨by rfl, ?_⟩) ?_ ?_
              rotate_left
              · intro w'
                go_simp
                with_reducible rfl
              rotate_left
              · simp only [Act.put, List.setIfInBounds_toArray, List.set_cons_zero, List.set_cons_succ, i64_w, i32_w]
                rfl
              refine pure_ (i := 4) (N := some 43) (v := ?_) (a' := ?_) #[true, true, false, true, true, false, false, false, false, false, false, false, false, false, false, false, false, false, false, false, false, false, false, false] rfl rfl (any_of HT_.out (by kernel_rfl)) (fun _ _ _ h => h) (Or.inl ⟨by rfl, ?_⟩) ?_ ?_
              rotate_left
              · intro w'
                go_simp
                with_reducible rfl
              rotate_left
              · simp only [Act.put, List.setIfInBounds_toArray, List.set_cons_zero, List.set_cons_succ, i64_w, i32_w]
                rfl
              refine callp_ (i := 5) (N := some 44) (a' := ?a5_) #[true, true, false, true, true, true, false, false, false, false, false, false, false, false, false, false, false, false, false, false, false, false, false, false] rfl rfl (by kernel_rfl) (fun _ _ _ h => h) (by rfl) Tryd.func14 (by kernel_rfl) rfl rfl (by (try simp only [List.map_toArray, List.map_cons, List.map_nil]); rfl) (damperlaw5_within.same _ _ (r := ?jj5_) ?hj5_ (by first | decide | assumption | exact wi_ne (by assumption) | exact wi_ne' (by assumption) | omega)) ?ha5_ ?h5_
              (case hj5_ => (try simp only [i64_w, i32_w]); first | assumption | (go_simp; rfl))
              (case ha5_ => simp only [Act.put, List.setIfInBounds_toArray, List.set_cons_zero, List.set_cons_succ, i64_w, i32_w]; rfl)
              refine pure_ (i := 6) (N := some 45) (v := ?_) (a' := ?_) #[true, true, false, true, true, true, true, false, false, false, false, false, false, false, false, false, false, false, false, false, false, false, false, false] rfl rfl (any_of HT_.out (by kernel_rfl)) (fun _ _ _ h => h) (Or.inl ⟨by rfl, ?_⟩) ?_ ?_
              rotate_left
              · intro w'
                go_simp
                with_reducible rfl
              rotate_left
              · simp only [Act.put, List.setIfInBounds_toArray, List.set_cons_zero, List.set_cons_succ, i64_w, i32_w]
                rfl
              refine pure_ (i := 7) (N := some 46) (v := ?_) (a' := ?_) #[true, true, false, true, true, true, true, true, false, false, false, false, false, false, false, false, false, false, false, false, false, false, false, false] rfl rfl (any_of HT_.out (by kernel_rfl)) (fun _ _ _ h => h) (Or.inl ⟨by rfl, ?_⟩) ?_ ?_
              rotate_left
              · intro w'
                go_simp
                with_reducible rfl
              rotate_left
              · simp only [Act.put, List.setIfInBounds_toArray, List.set_cons_zero, List.set_cons_succ, i64_w, i32_w]
                rfl
              refine pure_ (i := 9) (N := some 48) (v := ?_) (a' := ?_) #[true, true, false, true, true, true, true, true, false, true, false, false, false, false, false, false, false, false, false, false, false, false, false, false] rfl rfl (any_of HT_.out (by kernel_rfl)) (fun _ _ _ h => h) (Or.inl ⟨by rfl, ?_⟩) ?_ ?_
              rotate_left
              · intro w'
                go_simp
                with_reducible rfl
              rotate_left
              · simp only [Act.put, List.setIfInBounds_toArray, List.set_cons_zero, List.set_cons_succ, i64_w, i32_w]
                rfl
              refine take_ (i := 2) (N := some 41) (v := ?_) (a' := ?_) #[true, true, true, true, true, true, true, true, false, true, false, false, false, false, false, false, false, false, false, false, false, false, false, false] rfl rfl (take_ofW HT_.out HW_.out (by kernel_rfl)) (fun _ _ _ h => h) (Or.inl ⟨by rfl, ?_⟩) hHeld ?_ ?_
              rotate_left
              · rintro w' ⟨s0, s1⟩
                go_simp
                with_reducible rfl
              rotate_left
              · simp only [Act.put, List.setIfInBounds_toArray, List.set_cons_zero, List.set_cons_succ, i64_w, i32_w]
                rfl
              refine one_ (i := 8) (N := some 47) #[true, true, true, true, true, true, true, true, true, true, false, false, false, false, false, false, false, false, false, false, false, false, false, false] rfl rfl (one_of HT_.out (by kernel_rfl)) (by decide) (fun K hK => ?_)
              refine goes_ Tryd.func16 (by kernel_rfl) rfl #[.agg #[.slice Ao12 t304.length co12, .slice Ao14 t307.length co14], .int .i64 (wrap64 (ji7 + (wrap64 (100 * (ji22)))))] (by rfl) rfl rfl (by (try simp only [List.map_toArray, List.map_cons, List.map_nil]); first | done | (simp only [hji22, hji7]; rfl) | rfl | (simp only [List.length_drop, List.length_take]; rfl)) ?_
              with_reducible refine (table_Pick.calls k1 _ _ t304 _ _ t307 (wrap64 (ji7 + (wrap64 (100 * (ji22))))) t313 _ ?side1 ?side2 ?side3 ?side4 A23.out).mono ?_
              (case side1 => repeat (first | exact (Kd.R_reads' HO_311000.out).2.2 | (with_reducible refine Kd.C_alloc ?_ _) | (with_reducible refine Kd.C_drewN ?_ _) | (with_reducible refine Kd.C_drew ?_)))
              (case side2 => exact (Kd.R_reads' HO_311000.out).2.1)
              (case side3 => repeat (first | exact (Kd.R_reads' HO_311001.out).2.2 | (with_reducible refine Kd.C_alloc ?_ _) | (with_reducible refine Kd.C_drewN ?_ _) | (with_reducible refine Kd.C_drew ?_)))
              (case side4 => exact (Kd.R_reads' HO_311001.out).2.1)
              rintro e w29 ⟨rfl, hb⟩
              refine ⟨_, rfl, ?_⟩
              replace HO_311000 := Aside0.mk (Kd.R_below (by (with_reducible repeat (first | apply Kd.R_alloc | apply Kd.R_drewN | apply Kd.R_drew)); exact HO_311000.out) hb)
              replace HO_311001 := Aside0.mk (Kd.R_below (by (with_reducible repeat (first | apply Kd.R_alloc | apply Kd.R_drewN | apply Kd.R_drew)); exact HO_311001.out) hb)
              replace BK310 := Aside0.mk (blk_below (g := gb310) (pk BK310) hb)
              replace HB := Aside0.mk (below_step (by repeat (first | (with_reducible first | exact HB.out | apply below_alloc | apply pw_below_drewN | apply below_drew1 | refine below_set ?_ GE310.out) | exact HB.out)) hb)
              (try clear hb)
              (try clear hb2)
              (try clear hk)
              (try clear hi)
              refine hK.out _ _ ⟨bc BK310 0, bc BK310 1⟩ (fun hHeld => ?_)
              clear hK K
              refine norm_ (a' := ?_) ?_ ?_
              rotate_left
              · show Act.put _ (some 47) _ = _
                simp only [Act.put, List.setIfInBounds_toArray, List.set_cons_zero, List.set_cons_succ, i64_w, i32_w]
                rfl
              refine pure_ (i := 10) (N := some 49) (v := ?_) (a' := ?_) #[true, true, true, true, true, true, true, true, true, true, true, false, false, false, false, false, false, false, false, false, false, false, false, false] rfl rfl (any_of HT_.out (by kernel_rfl)) (fun _ _ _ h => h) (Or.inl ⟨by rfl, ?_⟩) ?_ ?_
              rotate_left
              · intro w'
                go_simp
                with_reducible rfl
              rotate_left
              · simp only [Act.put, List.setIfInBounds_toArray, List.set_cons_zero, List.set_cons_succ, i64_w, i32_w]
                rfl
              refine pure_ (i := 11) (N := some 50) (v := ?_) (a' := ?_) #[true, true, true, true, true, true, true, true, true, true, true, true, false, false, false, false, false, false, false, false, false, false, false, false] rfl rfl (any_of HT_.out (by kernel_rfl)) (fun _ _ _ h => h) (Or.inl ⟨by rfl, ?_⟩) ?_ ?_
              rotate_left
              · intro w'
                go_simp
                with_reducible rfl
              rotate_left
              · simp only [Act.put, List.setIfInBounds_toArray, List.set_cons_zero, List.set_cons_succ, i64_w, i32_w]
                rfl
              refine pure_ (i := 12) (N := some 51) (v := ?_) (a' := ?_) #[true, true, true, true, true, true, true, true, true, true, true, true, true, false, false, false, false, false, false, false, false, false, false, false] rfl rfl (any_of HT_.out (by kernel_rfl)) (fun _ _ _ h => h) (Or.inl ⟨by rfl, ?_⟩) ?_ ?_
              rotate_left
              · intro w'
                go_simp
                with_reducible rfl
              rotate_left
              · simp only [Act.put, List.setIfInBounds_toArray, List.set_cons_zero, List.set_cons_succ, i64_w, i32_w]
                rfl
              refine pure_ (i := 14) (N := some 53) (v := ?_) (a' := ?_) #[true, true, true, true, true, true, true, true, true, true, true, true, true, false, true, false, false, false, false, false, false, false, false, false] rfl rfl (any_of HT_.out (by kernel_rfl)) (fun _ _ _ h => h) (Or.inl ⟨by rfl, ?_⟩) ?_ ?_
              rotate_left
              · intro w'
                go_simp
                with_reducible rfl
              rotate_left
              · simp only [Act.put, List.setIfInBounds_toArray, List.set_cons_zero, List.set_cons_succ, i64_w, i32_w]
                rfl
              refine pure_ (i := 15) (N := some 54) (v := ?_) (a' := ?_) #[true, true, true, true, true, true, true, true, true, true, true, true, true, false, true, true, false, false, false, false, false, false, false, false] rfl rfl (any_of HT_.out (by kernel_rfl)) (fun _ _ _ h => h) (Or.inl ⟨by rfl, ?_⟩) ?_ ?_
              rotate_left
              · intro w'
                go_simp
                with_reducible rfl
              rotate_left
              · simp only [Act.put, List.setIfInBounds_toArray, List.set_cons_zero, List.set_cons_succ, i64_w, i32_w]
                rfl
              refine callp_ (i := 16) (N := some 55) (a' := ?a6_) #[true, true, true, true, true, true, true, true, true, true, true, true, true, false, true, true, true, false, false, false, false, false, false, false] rfl rfl (by kernel_rfl) (fun _ _ _ h => h) (by rfl) Tryd.func14 (by kernel_rfl) rfl rfl (by (try simp only [List.map_toArray, List.map_cons, List.map_nil]); rfl) (damperlaw5_within.same _ _ (r := ?jj6_) ?hj6_ (by first | decide | assumption | exact wi_ne (by assumption) | exact wi_ne' (by assumption) | omega)) ?ha6_ ?h6_
              (case hj6_ => (try simp only [i64_w, i32_w]); first | assumption | (go_simp; rfl))
              (case ha6_ => simp only [Act.put, List.setIfInBounds_toArray, List.set_cons_zero, List.set_cons_succ, i64_w, i32_w]; rfl)
              refine pure_ (i := 17) (N := some 56) (v := ?_) (a' := ?_) #[true, true, true, true, true, true, true, true, true, true, true, true, true, false, true, true, true, true, false, false, false, false, false, false] rfl rfl (any_of HT_.out (by kernel_rfl)) (fun _ _ _ h => h) (Or.inl ⟨by rfl, ?_⟩) ?_ ?_
              rotate_left
              · intro w'
                go_simp
                with_reducible rfl
              rotate_left
              · simp only [Act.put, List.setIfInBounds_toArray, List.set_cons_zero, List.set_cons_succ, i64_w, i32_w]
                rfl
              refine pure_ (i := 18) (N := some 57) (v := ?_) (a' := ?_) #[true, true, true, true, true, true, true, true, true, true, true, true, true, false, true, true, true, true, true, false, false, false, false, false] rfl rfl (any_of HT_.out (by kernel_rfl)) (fun _ _ _ h => h) (Or.inl ⟨by rfl, ?_⟩) ?_ ?_
              rotate_left
              · intro w'
                go_simp
                with_reducible rfl
              rotate_left
              · simp only [Act.put, List.setIfInBounds_toArray, List.set_cons_zero, List.set_cons_succ, i64_w, i32_w]
                rfl
              refine pure_ (i := 20) (N := some 59) (v := ?_) (a' := ?_) #[true, true, true, true, true, true, true, true, true, true, true, true, true, false, true, true, true, true, true, false, true, false, false, false] rfl rfl (any_of HT_.out (by kernel_rfl)) (fun _ _ _ h => h) (Or.inl ⟨by rfl, ?_⟩) ?_ ?_
              rotate_left
              · intro w'
                go_simp
                with_reducible rfl
              rotate_left
              · simp only [Act.put, List.setIfInBounds_toArray, List.set_cons_zero, List.set_cons_succ, i64_w, i32_w]
                rfl
              refine take_ (i := 13) (N := some 52) (v := ?_) (a' := ?_) #[true, true, true, true, true, true, true, true, true, true, true, true, true, true, true, true, true, true, true, false, true, false, false, false] rfl rfl (take_ofW HT_.out HW_.out (by kernel_rfl)) (fun _ _ _ h => h) (Or.inl ⟨by rfl, ?_⟩) hHeld ?_ ?_
              rotate_left
              · rintro w' ⟨s0, s1⟩
                go_simp
                with_reducible rfl
              rotate_left
              · simp only [Act.put, List.setIfInBounds_toArray, List.set_cons_zero, List.set_cons_succ, i64_w, i32_w]
                rfl
              refine one_ (i := 19) (N := some 58) #[true, true, true, true, true, true, true, true, true, true, true, true, true, true, true, true, true, true, true, true, true, false, false, false] rfl rfl (one_of HT_.out (by kernel_rfl)) (by decide) (fun K hK => ?_)
              refine goes_ Tryd.func16 (by kernel_rfl) rfl #[.agg #[.slice Ao12 t304.length co12, .slice Ao14 t307.length co14], .int .i64 (wrap64 (ji7 - (wrap64 (100 * (ji22)))))] (by rfl) rfl rfl (by (try simp only [List.map_toArray, List.map_cons, List.map_nil]); first | done | (simp only [hji22, hji7]; rfl) | rfl | (simp only [List.length_drop, List.length_take]; rfl)) ?_
              with_reducible refine (table_Pick.calls k1 _ _ t304 _ _ t307 (wrap64 (ji7 - (wrap64 (100 * (ji22))))) t314 _ ?side1 ?side2 ?side3 ?side4 A26.out).mono ?_
              (case side1 => repeat (first | exact (Kd.R_reads' HO_311000.out).2.2 | (with_reducible refine Kd.C_alloc ?_ _) | (with_reducible refine Kd.C_drewN ?_ _) | (with_reducible refine Kd.C_drew ?_)))
              (case side2 => exact (Kd.R_reads' HO_311000.out).2.1)
              (case side3 => repeat (first | exact (Kd.R_reads' HO_311001.out).2.2 | (with_reducible refine Kd.C_alloc ?_ _) | (with_reducible refine Kd.C_drewN ?_ _) | (with_reducible refine Kd.C_drew ?_)))
              (case side4 => exact (Kd.R_reads' HO_311001.out).2.1)
              rintro e w30 ⟨rfl, hb⟩
              refine ⟨_, rfl, ?_⟩
              replace HO_311000 := Aside0.mk (Kd.R_below (by (with_reducible repeat (first | apply Kd.R_alloc | apply Kd.R_drewN | apply Kd.R_drew)); exact HO_311000.out) hb)
              replace HO_311001 := Aside0.mk (Kd.R_below (by (with_reducible repeat (first | apply Kd.R_alloc | apply Kd.R_drewN | apply Kd.R_drew)); exact HO_311001.out) hb)
              replace BK310 := Aside0.mk (blk_below (g := gb310) (pk BK310) hb)
              replace HB := Aside0.mk (below_step (by repeat (first | (with_reducible first | exact HB.out | apply below_alloc | apply pw_below_drewN | apply below_drew1 | refine below_set ?_ GE310.out) | exact HB.out)) hb)
              (try clear hb)
              (try clear hb2)
              (try clear hk)
              (try clear hi)
              refine hK.out _ _ ⟨bc BK310 0, bc BK310 1⟩ (fun hHeld => ?_)
              clear hK K
              refine norm_ (a' := ?_) ?_ ?_
              rotate_left
              · show Act.put _ (some 58) _ = _
                simp only [Act.put, List.setIfInBounds_toArray, List.set_cons_zero, List.set_cons_succ, i64_w, i32_w]
                rfl
              refine pure_ (i := 21) (N := some 60) (v := ?_) (a' := ?_) #[true, true, true, true, true, true, true, true, true, true, true, true, true, true, true, true, true, true, true, true, true, true, false, false] rfl rfl (any_of HT_.out (by kernel_rfl)) (fun _ _ _ h => h) (Or.inl ⟨by rfl, ?_⟩) ?_ ?_
              rotate_left
              · intro w'
                go_simp
                with_reducible rfl
              rotate_left
              · simp only [Act.put, List.setIfInBounds_toArray, List.set_cons_zero, List.set_cons_succ, i64_w, i32_w]
                rfl
              refine pure_ (i := 22) (N := some 61) (v := ?_) (a' := ?_) #[true, true, true, true, true, true, true, true, true, true, true, true, true, true, true, true, true, true, true, true, true, true, true, false] rfl rfl (any_of HT_.out (by kernel_rfl)) (fun _ _ _ h => h) (Or.inl ⟨by rfl, ?_⟩) ?_ ?_
              rotate_left
              · intro w'
                go_simp
                with_reducible rfl
              rotate_left
              · simp only [Act.put, List.setIfInBounds_toArray, List.set_cons_zero, List.set_cons_succ, i64_w, i32_w]
                rfl
              refine pure_ (i := 23) (N := some 6) (v := ?_) (a' := ?_) #[true, true, true, true, true, true, true, true, true, true, true, true, true, true, true, true, true, true, true, true, true, true, true, true] rfl rfl (any_of HT_.out (by kernel_rfl)) (fun _ _ _ h => h) (Or.inl ⟨by rfl, ?_⟩) ?_ ?_
              rotate_left
              · intro w'
                go_simp
                with_reducible rfl
              rotate_left
              · simp only [Act.put, List.setIfInBounds_toArray, List.set_cons_zero, List.set_cons_succ, i64_w, i32_w]
                rfl
              refine done_ (done_of HT_.out (by kernel_rfl)) ?_
              try go_wp2_with (first | (go_at_call 14; refine (damperlaw5_within.keep _ _ rfl (by first | decide | assumption | exact wi_ne (by assumption) | exact wi_ne' (by assumption) | omega) _).mono ?_; rintro e w' ⟨rfl, rfl⟩))
              go_ret
              exact ⟨by first | rfl | (simp [errW_none, errW_some] <;> rfl) | (simp only [← hji7, ← hji22]; first | rfl | (simp [errW_none, errW_some] <;> rfl)) | (simp [*, errW_none, errW_some] <;> rfl), by repeat (first | (with_reducible first | exact HB.out | apply below_alloc | apply pw_below_drewN | apply below_drew1 | refine below_set ?_ GE310.out) | exact HB.out)⟩
            · rw [if_neg c24] at H
              have c24b0 : (t313.toList == t311.toList) = false := beq_eq_false_iff_ne.mpr c24
              have c24b1 : (t313.toList != t311.toList) = true := bne_iff_ne.mpr c24
              exact absurd (Option.some.inj H) (by rw [hr0_.out]; decide)
          · replace c21 := Bool.eq_false_iff.mpr c21
            subst c21
            have H1 : (some false) = some r := by rw [if_neg (show ¬ (false = true) by decide)] at H; exact H
            clear H
            have H := H1
            clear H1
            exact absurd (Option.some.inj H) (by rw [hr0_.out]; decide)
  · replace c5 := Bool.eq_false_iff.mpr c5
    subst c5
    have H1 : (some false) = some r := by rw [if_neg (show ¬ (false = true) by decide)] at H; exact H
    clear H
    have H := H1
    clear H1
    exact absurd (Option.some.inj H) (by rw [hr0_.out]; decide)

/-- THE ONE PURE STATEMENT of damperlaw5_TableShift: yours. -/
def damperlaw5_TableShift.Pure : Prop := ∀ (l0 : List Int) (a1 : Int) (a2 : Int), (l0.length ≤ maxLen ∧ ∀ y_ ∈ l0, (Lit.int .i64 y_).wf = true) → ((Lit.int .i64 a1).wf = true) → ((Lit.int .i64 a2).wf = true) → ∃ k, damperlaw5_TableShift.f k l0 a1 a2 = some true
theorem damperlaw5_TableShift.walk (P : damperlaw5_TableShift.Pure) (A0 : Option Addr) (c0 : Nat) (l0 : List Int) (a1 : Int) (a2 : Int) (w : World) (hLd_ : LaidW w) (w0 : l0.length ≤ maxLen ∧ ∀ y_ ∈ l0, (Lit.int .i64 y_).wf = true) (w1 : (Lit.int .i64 a1).wf = true) (w2 : (Lit.int .i64 a2).wf = true) (hr0 : Kd.C (Kd.int .i64) w A0 l0.length l0) (hc0 : l0.length ≤ c0) :
    Calls Tryd.prog 5 #[.slice A0 l0.length c0, .int .i64 a1, .int .i64 a2] w fun e w' => e = .returned (.bool true) ∧ Below w.heap.size w w' := by
  obtain ⟨k, h⟩ := P l0 a1 a2 w0 w1 w2
  refine (damperlaw5_TableShift.calls k A0 c0 l0 a1 a2 true w ⟨hLd_⟩ hr0 hc0 ⟨rfl⟩ h).mono ?_
  rintro e w' ⟨rfl, hd⟩
  exact ⟨rfl, hd⟩

-- NOT PRINTED: function 36 (table_pair)

/-! ### table_alike: function 37 -/
def table_alike.f (a0_0 : ByteArray) (a0_1 : ByteArray) (a1_0 : ByteArray) (a1_1 : ByteArray) : Option (Bool) := some (a0_0.toList == a1_0.toList && (a0_1.toList == a1_1.toList))
theorem eq_pair (d : Nat) (w : World) (x0 x1 y0 y1 : ByteArray) : (Op.equalIn (d + 2) 62 (.agg #[.string x0, .string x1]) (.agg #[.string y0, .string y1])).run Tryd.prog w = .ok (x0.toList == y0.toList && (x1.toList == y1.toList)) w := by
  obtain ⟨i, hi, _⟩ := info_parts info9
  have hc : Tryd.prog.cellsOf 9 = 1 := by kernel_rfl
  rw [run_equalIn_array w (d + 1) _ _ Tryd.underlying62 hi, hc, show List.range 2 = [0, 1] from rfl]
  have p0 : (part 9 #[.string x0, .string x1] (0 * 1)).run Tryd.prog w = .ok (.string x0) w := by go_simp
  have p1 : (part 9 #[.string x0, .string x1] (1 * 1)).run Tryd.prog w = .ok (.string x1) w := by go_simp
  have q0 : (part 9 #[.string y0, .string y1] (0 * 1)).run Tryd.prog w = .ok (.string y0) w := by go_simp
  have q1 : (part 9 #[.string y0, .string y1] (1 * 1)).run Tryd.prog w = .ok (.string y1) w := by go_simp
  have e0 : (Op.equalIn (d + 1) 9 (.string x0) (.string y0)).run Tryd.prog w = .ok (x0.toList == y0.toList) w := by go_simp
  have e1 : (Op.equalIn (d + 1) 9 (.string x1) (.string y1)).run Tryd.prog w = .ok (x1.toList == y1.toList) w := by go_simp
  simp only [Op.eqItems, Sem.run_bind, p0, q0, e0, Result.andThen_ok]
  cases (x0.toList == y0.toList)
  · simp
  · simp only [Bool.not_true, Bool.false_eq_true, if_false, p1, q1, e1, Result.andThen_ok, Sem.run_bind]
    cases (x1.toList == y1.toList) <;> simp
set_option maxHeartbeats 8000000 in
set_option maxRecDepth 100000 in
theorem table_alike.calls (a0_0 : ByteArray) (a0_1 : ByteArray) (a1_0 : ByteArray) (a1_1 : ByteArray) (r : Bool) (w : World) (h : table_alike.f a0_0 a0_1 a1_0 a1_1 = some r) :
    Calls Tryd.prog 37 #[.agg #[.string a0_0, .string a0_1], .agg #[.string a1_0, .string a1_1]] w fun e w' => e = .returned (.bool r) ∧ Below w.heap.size w w' := by
  have hr := Option.some.inj h
  clear h
  have hu := Tryd.underlying62
  have heq := fun (W : World) => eq_pair 9998 W a0_0 a0_1 a1_0 a1_1
  rw [hr] at heq
  clear hr
  go_enter Tryd.func37, Tryd.ntmps37
  go_wp2_with fail
  go_ret
  exact ⟨rfl, below_alloc (below_alloc (Below.refl _ _) _) _⟩

/-! ### table_Same: function 17 -/
/-- Are two pairs the same; two lists of them. -/
def eqP (a b : S62) : Bool := a.f0.toList == b.f0.toList && (a.f1.toList == b.f1.toList)
def eqPs : List S62 → List S62 → Bool
  | [], [] => true
  | x :: xs, y :: ys => eqP x y && eqPs xs ys
  | _, _ => false
theorem eqPs_len : ∀ (l m : List S62), l.length ≠ m.length → eqPs l m = false
  | [], [], h => absurd rfl h
  | [], _ :: _, _ => rfl
  | _ :: _, [], _ => rfl
  | x :: xs, y :: ys, h => by rw [eqPs, eqPs_len xs ys (fun e => h (by simp [e])), Bool.and_false]
theorem eqPs_step (l m : List S62) (x : Int) (h0 : 0 ≤ x) (h1 : x < (l.length : Int)) (h2 : x < (m.length : Int)) : eqPs (l.drop x.toNat) (m.drop x.toNat) = (eqP (rd_T62 l x) (rd_T62 m x) && eqPs (l.drop (x + 1).toNat) (m.drop (x + 1).toNat)) := by
  have hn : x.toNat < l.length := by omega
  have hm : x.toNat < m.length := by omega
  rw [show (x + 1).toNat = x.toNat + 1 by omega, List.drop_eq_getElem_cons hn, List.drop_eq_getElem_cons hm, eqPs]
  unfold rd_T62
  rw [List.getD_eq_getElem?_getD, List.getElem?_eq_getElem hn, Option.getD_some, List.getD_eq_getElem?_getD, List.getElem?_eq_getElem hm, Option.getD_some]
theorem eqPs_end (l m : List S62) (x : Int) (h1 : ¬ x < (l.length : Int)) (h2 : l.length = m.length) (h0 : 0 ≤ x) : eqPs (l.drop x.toNat) (m.drop x.toNat) = true := by
  rw [List.drop_eq_nil_of_le (by omega), List.drop_eq_nil_of_le (by omega), eqPs]
set_option maxHeartbeats 8000000 in
set_option maxRecDepth 100000 in
theorem equal_walk (A : Option Addr) (c : Nat) (l : List S62) (B : Option Addr) (d : Nat) (m : List S62) (w : World) (hr : Kd.C k62 w A l.length l) (hs : Kd.C k62 w B m.length m) :
    Calls Tryd.prog 36 #[.slice A l.length c, .slice B m.length d, .func (.func 37) #[] #[]] w fun e w' => e = .returned (.bool (eqPs l m)) ∧ Below w.heap.size w w' := by
  have hm : (l.length : Int) ≤ 9223372036854775807 := by have := Kd.C_max hr; omega
  have HR := Aside0.mk hr
  have HS := Aside0.mk hs
  clear hr hs
  obtain ⟨res, hres⟩ : ∃ r : Bool, eqPs l m = r := ⟨_, rfl⟩
  have HE : Aside0 (eqPs (l.drop (0 : Int).toNat) (m.drop (0 : Int).toNat) = res) := ⟨by simpa using hres⟩
  rw [hres]
  by_cases hl : l.length = m.length
  · have h1 : ((l.length : Int) != (m.length : Int)) = false := by rw [hl]; simp
    have h2 : (l.length != m.length) = false := by rw [hl]; simp
    have HL := Aside0.mk hl
    have hle : m.length ≤ l.length := by omega
    have hge : l.length ≤ m.length := by omega
    have h3 := eq_true hl
    clear hl hres
    go_enter Tryd.func36, Tryd.ntmps36
    go_wp2_with fail
    clear h3 h1 h2
    go_loopw [17] (fun v8 w' => ∃ x : Int, 0 ≤ x ∧ x ≤ (l.length : Int) ∧ v8 = .int .i64 x ∧ Aside0 (eqPs (l.drop x.toNat) (m.drop x.toNat) = res) ∧ Aside0 (Below w.heap.size w w')) (fun v8 w' => l.length - (intOf v8).toNat)
    case atStart => exact ⟨0, by omega, by omega, rfl, HE, ⟨Below.refl _ _⟩⟩
    case round =>
      obtain ⟨x, hx0, hx1, rfl, HI, HB⟩ := hrel
      by_cases hlt : x < (l.length : Int)
      · have hlt2 : x < (m.length : Int) := by omega
        have hst := eqPs_step l m x hx0 hlt hlt2
        rw [HI.out] at hst
        have hr' := Kd.C_below HR.out HB.out
        obtain ⟨ad, e, p0, p1⟩ := at_T62 hr' x hx0 hlt
        subst e
        clear hr'
        have hx2 : wrap64 (x + 1) = x + 1 := by unfold wrap64; omega
        have hx3 := eq_true hx0
        have hx4 := eq_true hlt
        have hx5 := eq_true hlt2
        have hdec : decide (x < (l.length : Int)) = true := decide_eq_true hlt
        generalize hq : rd_T62 l x = y at p0 p1 hst
        clear hq
        obtain ⟨y0, y1⟩ := y
        obtain ⟨bd, e, q0, q1⟩ := at_T62 (Kd.C_alloc (Kd.C_below HS.out HB.out) (.cells #[.string y0, .string y1] 62)) x hx0 hlt2
        subst e
        generalize hq2 : rd_T62 m x = z at q0 q1 hst
        clear hq2
        obtain ⟨z0, z1⟩ := z
        simp only at p0 p1 q0 q1
        obtain ⟨q, hq⟩ : ∃ q : Bool, eqP ⟨y0, y1⟩ ⟨z0, z1⟩ = q := ⟨_, rfl⟩
        have hcall := fun (W : World) => table_alike.calls y0 y1 z0 z1 q W (by rw [← hq]; rfl)
        have HC := Lib.hid hcall
        rw [hq] at hst
        clear hcall hq
        cases q with
        | true =>
          have HST := Aside0.mk hst
          clear hst
          go_wp2_with (go_at_call 37; refine (HC.out _).mono ?_; rintro e w2 ⟨rfl, hb2⟩; have HB2 := Aside0.mk (below_step (below_alloc (below_alloc HB.out _) _) hb2); clear hb2)
          go_roundw
          case rel => exact ⟨x + 1, by omega, by omega, by first | rfl | rw [hx2], ⟨HST.out.symm⟩, HB2⟩
          case measure => simp [intOf]; omega
        | false =>
          have HST := Aside0.mk hst
          clear hst
          go_wp2_with (go_at_call 37; refine (HC.out _).mono ?_; rintro e w2 ⟨rfl, hb2⟩; have HB2 := Aside0.mk (below_step (below_alloc (below_alloc HB.out _) _) hb2); clear hb2)
          go_ret
          exact ⟨by rw [HST.out]; rfl, HB2.out⟩
      · have hen := eqPs_end l m x hlt HL.out hx0
        rw [HI.out] at hen
        subst hen
        have hdec : decide (x < (l.length : Int)) = false := decide_eq_false hlt
        have hdec2 := eq_false hlt
        go_wp2_with fail
        go_ret
        exact ⟨rfl, HB.out⟩
  · have h1 : ((l.length : Int) != (m.length : Int)) = true := by rw [bne_iff_ne]; omega
    have h2 : (l.length != m.length) = true := by rw [bne_iff_ne]; omega
    have h3 := eq_false hl
    have hf := eqPs_len l m hl
    rw [hres] at hf
    clear hl hres HE
    subst hf
    go_enter Tryd.func36, Tryd.ntmps36
    go_wp2_with fail
    go_ret
    exact ⟨rfl, Below.refl _ _⟩
def table_Same.f (k : Nat) (l0_0 : List (S32)) (l0_1 : List (S35)) (l1_0 : List (S32)) (l1_1 : List (S35)) : Option Bool :=
  (table_texts.f k l0_0 l0_1).bind fun p => (table_texts.f k l1_0 l1_1).bind fun q => some (eqPs p.1 q.1 && eqPs p.2 q.2)
theorem table_Same.mono : ∀ a0 a1 a2 a3 k, LeO (table_Same.f k a0 a1 a2 a3) (table_Same.f (k + 1) a0 a1 a2 a3) := by
  intro a0 a1 a2 a3 k
  unfold table_Same.f
  exact LeO.bind (table_texts.mono _ _ k) (fun _ => LeO.bind (table_texts.mono _ _ k) (fun _ => LeO.refl _))
set_option maxHeartbeats 8000000 in
set_option maxRecDepth 100000 in
theorem table_Same.calls (k : Nat) (A0_0 : Option Addr) (c0_0 : Nat) (l0_0 : List (S32)) (A0_1 : Option Addr) (c0_1 : Nat) (l0_1 : List (S35)) (A1_0 : Option Addr) (c1_0 : Nat) (l1_0 : List (S32)) (A1_1 : Option Addr) (c1_1 : Nat) (l1_1 : List (S35)) (r : Bool) (w : World) (hLd_ : Aside0 (LaidW w)) (hr0_0 : Kd.C k32 w A0_0 l0_0.length l0_0) (hc0_0 : l0_0.length ≤ c0_0) (hr0_1 : Kd.C k35 w A0_1 l0_1.length l0_1) (hc0_1 : l0_1.length ≤ c0_1) (hr1_0 : Kd.C k32 w A1_0 l1_0.length l1_0) (hc1_0 : l1_0.length ≤ c1_0) (hr1_1 : Kd.C k35 w A1_1 l1_1.length l1_1) (hc1_1 : l1_1.length ≤ c1_1) (h : table_Same.f k l0_0 l0_1 l1_0 l1_1 = some r) :
    Calls Tryd.prog 17 #[.agg #[.slice A0_0 l0_0.length c0_0, .slice A0_1 l0_1.length c0_1], .agg #[.slice A1_0 l1_0.length c1_0, .slice A1_1 l1_1.length c1_1]] w fun e w' => e = .returned (.bool r) ∧ Below w.heap.size w w' := by
  unfold table_Same.f at h
  obtain ⟨⟨p1, p2⟩, hP, h⟩ := Option.bind_eq_some_iff.mp h
  obtain ⟨⟨q1, q2⟩, hQ, h⟩ := Option.bind_eq_some_iff.mp h
  have hr := Option.some.inj h
  clear h
  simp only at hr
  obtain ⟨b1, e1⟩ : ∃ b : Bool, eqPs p1 q1 = b := ⟨_, rfl⟩
  obtain ⟨b2, e2⟩ : ∃ b : Bool, eqPs p2 q2 = b := ⟨_, rfl⟩
  rw [e1, e2] at hr
  have HR := Aside0.mk hr
  obtain ⟨w0, hw0⟩ : ∃ w0, w0 = (w.alloc (.cells #[.slice A0_0 l0_0.length c0_0, .slice A0_1 l0_1.length c0_1] 25)).alloc (.cells #[.slice A1_0 l1_0.length c1_0, .slice A1_1 l1_1.length c1_1] 25) := ⟨_, rfl⟩
  have hB0 : Below w.heap.size w w0 := by rw [hw0]; exact below_alloc (below_alloc (Below.refl _ _) _) _
  have hL0 : Aside0 (LaidW w0) := ⟨hLd_.out.below hB0⟩
  have hK0 : w0.heap[w.heap.size]? = some (.cells #[.slice A0_0 l0_0.length c0_0, .slice A0_1 l0_1.length c0_1] 25 (0, 0)) := by rw [hw0]; exact blk_alloc (blk_new _ _) _
  have hK1 : w0.heap[w.heap.size + 1]? = some (.cells #[.slice A1_0 l1_0.length c1_0, .slice A1_1 l1_1.length c1_1] 25 (0, 0)) := by rw [hw0]; simpa using blk_new (w.alloc (.cells #[.slice A0_0 l0_0.length c0_0, .slice A0_1 l0_1.length c0_1] 25)) _
  have hcP := table_texts.calls k A0_0 c0_0 l0_0 A0_1 c0_1 l0_1 p1 p2 w0 hL0 (Kd.C_below hr0_0 hB0) hc0_0 (Kd.C_below hr0_1 hB0) hc0_1 hP
  have hcQ := fun (W : World) (hb : Below w0.heap.size w0 W) => table_texts.calls k A1_0 c1_0 l1_0 A1_1 c1_1 l1_1 q1 q2 W ⟨hL0.out.below hb⟩ (Kd.C_below (Kd.C_below hr1_0 hB0) hb) hc1_0 (Kd.C_below (Kd.C_below hr1_1 hB0) hb) hc1_1 hQ
  have HCP := Lib.hid hcP
  have HCQ := Lib.hid hcQ
  have HB0 := Aside0.mk hB0
  have HK0 := Aside0.mk hK0
  have HK1 := Aside0.mk hK1
  have f0 : w0.cell? ⟨w.heap.size, 0, none⟩ = some (.slice A0_0 l0_0.length c0_0) := (blk_cell hK0 0).trans rfl
  have f1 : w0.cell? ⟨w.heap.size, 1, none⟩ = some (.slice A0_1 l0_1.length c0_1) := (blk_cell hK0 1).trans rfl
  clear hcP hcQ hB0 hK0 hK1 hr hP hQ hr0_0 hr0_1 hr1_0 hr1_1
  go_enter Tryd.func17, Tryd.ntmps17
  rw [hw0] at f0 f1
  go_wp2_with fail
  rw [← hw0]
  refine HCP.out.mono ?_
  rintro e w1 ⟨v1, v2, rfl, hR1, hR2, hb1⟩
  have g0 : w1.cell? ⟨w.heap.size + 1, 0, none⟩ = some (.slice A1_0 l1_0.length c1_0) := (blk_cell (blk_below HK1.out hb1) 0).trans rfl
  have g1 : w1.cell? ⟨w.heap.size + 1, 1, none⟩ = some (.slice A1_1 l1_1.length c1_1) := (blk_cell (blk_below HK1.out hb1) 1).trans rfl
  have HB1 := Aside0.mk hb1
  have HR1 := Aside0.mk hR1
  have HR2 := Aside0.mk hR2
  clear hb1 hR1 hR2 hw0 f0 f1
  go_wp2_with fail
  refine (HCQ.out w1 HB1.out).mono ?_
  rintro e w2 ⟨u1, u2, rfl, hS1, hS2, hb2⟩
  have C1 := Kd.R_below HR1.out hb2
  have C2 := Kd.R_below HR2.out hb2
  obtain ⟨Ap1, cp1, ep1⟩ := Kd.R_slice C1
  subst ep1
  obtain ⟨Ap2, cp2, ep2⟩ := Kd.R_slice C2
  subst ep2
  obtain ⟨Aq1, cq1, eq1⟩ := Kd.R_slice hS1
  subst eq1
  obtain ⟨Aq2, cq2, eq2⟩ := Kd.R_slice hS2
  subst eq2
  have hE1 := equal_walk Ap1 cp1 p1 Aq1 cq1 q1 w2 (Kd.R_reads' C1).2.2 (Kd.R_reads' hS1).2.2
  have hE2 := fun (W : World) (hb : Below w2.heap.size w2 W) => equal_walk Ap2 cp2 p2 Aq2 cq2 q2 W (Kd.C_below (Kd.R_reads' C2).2.2 hb) (Kd.C_below (Kd.R_reads' hS2).2.2 hb)
  rw [e1] at hE1
  rw [e2] at hE2
  have HE1 := Lib.hid hE1
  have HE2 := Lib.hid hE2
  have HB2 := Aside0.mk (below_step (below_step HB0.out HB1.out) hb2)
  clear hE1 hE2 hb2 C1 C2 hS1 hS2 HR1 HR2 e1 e2 g0 g1
  cases b1
  · go_wp2_with fail
    refine HE1.out.mono ?_
    rintro e w3 ⟨rfl, hb3⟩
    go_wp2_with fail
    go_ret
    exact ⟨by rw [← HR.out]; rfl, below_step HB2.out hb3⟩
  · go_wp2_with fail
    refine HE1.out.mono ?_
    rintro e w3 ⟨rfl, hb3⟩
    have HE2' := Lib.hid (HE2.out w3 hb3)
    clear HE2
    go_wp2_with fail
    refine HE2'.out.mono ?_
    rintro e w4 ⟨rfl, hb4⟩
    go_wp2_with fail
    go_ret
    exact ⟨by rw [← HR.out]; rfl, below_step (below_step HB2.out hb3) hb4⟩

end Go.Proofs.YtckcimahclpdfaaDoor.Ma
