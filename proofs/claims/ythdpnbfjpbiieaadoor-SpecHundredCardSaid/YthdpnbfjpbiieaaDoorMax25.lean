-- Written by a program of this session (wip/tools/myprint.py), in the form of the kit's print. Not trusted: Lean checks it.
import Derived.Test.YthdpnbfjpbiieaaDoorMax0
import Derived.Test.YthdpnbfjpbiieaaDoorMax13
import Derived.Test.YthdpnbfjpbiieaaDoorMax14
import Derived.Test.YthdpnbfjpbiieaaDoorMax20
namespace Go.Proofs.YthdpnbfjpbiieaaDoor.Ma
open Go.RowKit Go.Proofs.YthdpnbfjpbiieaaDoorW.PrintWords Go.Proofs.YthdpnbfjpbiieaaDoorW.PrintLast Go.Proofs.YthdpnbfjpbiieaaDoorW.PrintMore
attribute [local go_sem] max2_int min2_int max_two min_two max_three min_three max_four min_four   -- for this text's walks alone
set_option linter.unusedVariables false
set_option linter.unusedSimpArgs false

/-! ### damperlaw2_SpecHundred: function 5 -/
mutual
def damperlaw2_SpecHundred.j0 : Nat → Int → Int → ByteArray → ByteArray → List (S41) → Int → Option (Bool)
  | 0, _, _, _, _, _, _ => none
  | k + 1, x8, x9, x309000, x309001, x309002, x309003 => if 0 ≤ x8 then (if x8 < (x309002.length : Int) then ((some (x309002.set (x8 : Int).toNat (⟨(rd_T41 x309002 x8).f0, (rd_T41 x309002 x8).f1, wrap64 (((rd_T41 x309002 x8).f2) + x9)⟩ : S41) : List (S41))).bind fun y311 => (if (wrap64 (((rd_T41 x309002 x8).f2) + x9)) < 0 then ((spec_Route.f k x309000 x309001 y311 x309003).bind fun t312 => (some (t312 == 2))) else (if (wrap64 (((rd_T41 x309002 x8).f2) + x9)) > 100 then (damperlaw2_SpecHundred.j1 k 2 x309000 x309001 y311 x309003) else (damperlaw2_SpecHundred.j1 k 4 x309000 x309001 y311 x309003)))) else (none)) else (none)
def damperlaw2_SpecHundred.j1 : Nat → Int → ByteArray → ByteArray → List (S41) → Int → Option (Bool)
  | 0, _, _, _, _, _ => none
  | k + 1, x11, x309000, x309001, x309002, x309003 => (spec_Route.f k x309000 x309001 x309002 x309003).bind fun t313 => (some (t313 == x11))
end
def damperlaw2_SpecHundred.f (k : Nat) (l0 : List Int) (a1 : Int) (a2 : Bool) : Option (Bool) := (damperlaw2_known.f k).bind fun t301 => (if t301 = true then ((damperlaw2_Route.f k 0 l0 0).bind fun bt302 => (if (bt302.2.2.1.length : Int) = 0 then (none) else ((spec_Route.f k bt302.1 bt302.2.1 bt302.2.2.1 bt302.2.2.2).bind fun t309 => (if t309 = 0 then (if a2 = true then (damperlaw2_SpecHundred.j0 k (wi a1 (bt302.2.2.1.length : Int)) 1 bt302.1 bt302.2.1 bt302.2.2.1 bt302.2.2.2) else (damperlaw2_SpecHundred.j0 k (wi a1 (bt302.2.2.1.length : Int)) (-1) bt302.1 bt302.2.1 bt302.2.2.1 bt302.2.2.2)) else (some false))))) else (some false))
theorem damperlaw2_SpecHundred.mono_l : ∀ k, (∀ y0 y1 y2 y3 y4 y5, LeO (damperlaw2_SpecHundred.j0 k y0 y1 y2 y3 y4 y5) (damperlaw2_SpecHundred.j0 (k + 1) y0 y1 y2 y3 y4 y5)) ∧ (∀ y0 y1 y2 y3 y4, LeO (damperlaw2_SpecHundred.j1 k y0 y1 y2 y3 y4) (damperlaw2_SpecHundred.j1 (k + 1) y0 y1 y2 y3 y4))
  | 0 => ⟨fun _ _ _ _ _ _ r h => by simp [damperlaw2_SpecHundred.j0] at h, fun _ _ _ _ _ r h => by simp [damperlaw2_SpecHundred.j1] at h⟩
  | k + 1 => by
    obtain ⟨ih0, ih1⟩ := damperlaw2_SpecHundred.mono_l k
    refine ⟨?_, ?_⟩
    · intro y0 y1 y2 y3 y4 y5
      unfold damperlaw2_SpecHundred.j0
      repeat' first
      | (with_reducible exact ih0 _ _ _ _ _ _)
      | (with_reducible exact ih1 _ _ _ _ _)
      | (with_reducible exact damperlaw2_Route.mono _ _ _ _)
      | (with_reducible exact damperlaw2_known.mono _)
      | (with_reducible exact spec_Route.mono _ _ _ _ _)
      | (with_reducible exact LeO.refl _)
      | (with_reducible exact LeO.none _)
      | (with_reducible refine LeO.ite ?_ ?_)
      | (with_reducible refine LeO.bind ?_ (fun _ => ?_))
      | exact ih0 _ _ _ _ _ _
      | exact ih1 _ _ _ _ _
      | exact damperlaw2_Route.mono _ _ _ _
      | exact damperlaw2_known.mono _
      | exact spec_Route.mono _ _ _ _ _
      | exact LeO.none _
      | refine LeO.ite ?_ ?_
      | refine LeO.bind ?_ (fun _ => ?_)
    · intro y0 y1 y2 y3 y4
      unfold damperlaw2_SpecHundred.j1
      repeat' first
      | (with_reducible exact ih0 _ _ _ _ _ _)
      | (with_reducible exact ih1 _ _ _ _ _)
      | (with_reducible exact damperlaw2_Route.mono _ _ _ _)
      | (with_reducible exact damperlaw2_known.mono _)
      | (with_reducible exact spec_Route.mono _ _ _ _ _)
      | (with_reducible exact LeO.refl _)
      | (with_reducible exact LeO.none _)
      | (with_reducible refine LeO.ite ?_ ?_)
      | (with_reducible refine LeO.bind ?_ (fun _ => ?_))
      | exact ih0 _ _ _ _ _ _
      | exact ih1 _ _ _ _ _
      | exact damperlaw2_Route.mono _ _ _ _
      | exact damperlaw2_known.mono _
      | exact spec_Route.mono _ _ _ _ _
      | exact LeO.none _
      | refine LeO.ite ?_ ?_
      | refine LeO.bind ?_ (fun _ => ?_)
theorem damperlaw2_SpecHundred.mono : ∀ a0 a1 a2 k, LeO (damperlaw2_SpecHundred.f k a0 a1 a2) (damperlaw2_SpecHundred.f (k + 1) a0 a1 a2) := by
  intro a0 a1 a2 k
  obtain ⟨ih0, ih1⟩ := damperlaw2_SpecHundred.mono_l k
  unfold damperlaw2_SpecHundred.f
  repeat' first
      | (with_reducible exact ih0 _ _ _ _ _ _)
      | (with_reducible exact ih1 _ _ _ _ _)
      | (with_reducible exact damperlaw2_Route.mono _ _ _ _)
      | (with_reducible exact damperlaw2_known.mono _)
      | (with_reducible exact spec_Route.mono _ _ _ _ _)
      | (with_reducible exact LeO.refl _)
      | (with_reducible exact LeO.none _)
      | (with_reducible refine LeO.ite ?_ ?_)
      | (with_reducible refine LeO.bind ?_ (fun _ => ?_))
      | exact ih0 _ _ _ _ _ _
      | exact ih1 _ _ _ _ _
      | exact damperlaw2_Route.mono _ _ _ _
      | exact damperlaw2_known.mono _
      | exact spec_Route.mono _ _ _ _ _
      | exact LeO.none _
      | refine LeO.ite ?_ ?_
      | refine LeO.bind ?_ (fun _ => ?_)
set_option maxHeartbeats 8000000 in
set_option maxRecDepth 100000 in
theorem damperlaw2_SpecHundred.calls (k : Nat) (A0 : Option Addr) (c0 : Nat) (l0 : List Int) (a1 : Int) (a2 : Bool) (r : Bool) (w : World) (hLd_ : Aside0 (LaidW w)) (hr0 : Kd.C (Kd.int .i64) w A0 l0.length l0) (hc0 : l0.length ≤ c0) (hr0_ : Aside0 (r = true)) (h : damperlaw2_SpecHundred.f k l0 a1 a2 = some r) :
    Calls Tryd.prog 5 #[.slice A0 l0.length c0, .int .i64 a1, .bool a2] w fun e w' => e = .returned (.bool r) ∧ Below w.heap.size w w' := by
  have hu35 := Tryd.underlying35
  have HR0 := Aside0.mk hr0
  have HC0 := Aside0.mk hc0
  clear hr0 hc0
  have HB := Aside0.mk (Below.refl w.heap.size w)
  have H : ((damperlaw2_known.f k).bind fun t301 => (if t301 = true then ((damperlaw2_Route.f k 0 l0 0).bind fun bt302 => (if (bt302.2.2.1.length : Int) = 0 then (none) else ((spec_Route.f k bt302.1 bt302.2.1 bt302.2.2.1 bt302.2.2.2).bind fun t309 => (if t309 = 0 then (if a2 = true then (damperlaw2_SpecHundred.j0 k (wi a1 (bt302.2.2.1.length : Int)) 1 bt302.1 bt302.2.1 bt302.2.2.1 bt302.2.2.2) else (damperlaw2_SpecHundred.j0 k (wi a1 (bt302.2.2.1.length : Int)) (-1) bt302.1 bt302.2.1 bt302.2.2.1 bt302.2.2.2)) else (some false))))) else (some false))) = some r := h
  clear h
  replace H := Option.bind_eq_some_iff.mp H
  obtain ⟨t301, A40, H⟩ := H
  replace H : (if t301 = true then ((damperlaw2_Route.f k 0 l0 0).bind fun bt302 => (if (bt302.2.2.1.length : Int) = 0 then (none) else ((spec_Route.f k bt302.1 bt302.2.1 bt302.2.2.1 bt302.2.2.2).bind fun t309 => (if t309 = 0 then (if a2 = true then (damperlaw2_SpecHundred.j0 k (wi a1 (bt302.2.2.1.length : Int)) 1 bt302.1 bt302.2.1 bt302.2.2.1 bt302.2.2.2) else (damperlaw2_SpecHundred.j0 k (wi a1 (bt302.2.2.1.length : Int)) (-1) bt302.1 bt302.2.1 bt302.2.2.1 bt302.2.2.2)) else (some false))))) else (some false)) = some r := H
  have A4 := Aside0.mk A40
  clear A40
  by_cases c5 : t301 = true
  · subst c5
    have H1 : ((damperlaw2_Route.f k 0 l0 0).bind fun bt302 => (if (bt302.2.2.1.length : Int) = 0 then (none) else ((spec_Route.f k bt302.1 bt302.2.1 bt302.2.2.1 bt302.2.2.2).bind fun t309 => (if t309 = 0 then (if a2 = true then (damperlaw2_SpecHundred.j0 k (wi a1 (bt302.2.2.1.length : Int)) 1 bt302.1 bt302.2.1 bt302.2.2.1 bt302.2.2.2) else (damperlaw2_SpecHundred.j0 k (wi a1 (bt302.2.2.1.length : Int)) (-1) bt302.1 bt302.2.1 bt302.2.2.1 bt302.2.2.2)) else (some false))))) = some r := by rw [if_pos rfl] at H; exact H
    clear H
    have H := H1
    clear H1
    replace H := Option.bind_eq_some_iff.mp H
    obtain ⟨⟨t302, t303, t304, t307⟩, A60, H⟩ := H
    replace H : (if (t304.length : Int) = 0 then (none) else ((spec_Route.f k t302 t303 t304 t307).bind fun t309 => (if t309 = 0 then (if a2 = true then (damperlaw2_SpecHundred.j0 k (wi a1 (t304.length : Int)) 1 t302 t303 t304 t307) else (damperlaw2_SpecHundred.j0 k (wi a1 (t304.length : Int)) (-1) t302 t303 t304 t307)) else (some false)))) = some r := H
    have A6 := Aside0.mk A60
    clear A60
    by_cases c7 : (t304.length : Int) = 0
    · rw [if_pos c7] at H
      exact absurd H (by simp)
    rw [if_neg c7] at H
    have c7b0 : ((t304.length : Int) == 0) = false := beq_eq_false_iff_ne.mpr c7
    have c7b1 : ((t304.length : Int) != 0) = true := bne_iff_ne.mpr c7
    have c7b2 : ¬ (t304 = []) := fun h_ => c7 (by rw [h_]; rfl)
    obtain ⟨ji8, hji8⟩ : ∃ j_ : Int, (wi a1 (t304.length : Int)) = j_ := ⟨_, rfl⟩
    replace H : ((spec_Route.f k t302 t303 t304 t307).bind fun t309 => (if t309 = 0 then (if a2 = true then (damperlaw2_SpecHundred.j0 k ji8 1 t302 t303 t304 t307) else (damperlaw2_SpecHundred.j0 k ji8 (-1) t302 t303 t304 t307)) else (some false))) = some r := by first | (rw [hji8] at H; exact H) | (simp only [hji8] at H ⊢; exact H)
    (try rw [hji8] at A4)
    (try rw [hji8] at A6)
    replace H := Option.bind_eq_some_iff.mp H
    obtain ⟨t309, A90, H⟩ := H
    replace H : (if t309 = 0 then (if a2 = true then (damperlaw2_SpecHundred.j0 k ji8 1 t302 t303 t304 t307) else (damperlaw2_SpecHundred.j0 k ji8 (-1) t302 t303 t304 t307)) else (some false)) = some r := H
    have A9 := Aside0.mk A90
    clear A90
    by_cases c10 : t309 = 0
    rotate_left
    · rw [if_neg c10] at H
      have c10b0 : (t309 == 0) = false := beq_eq_false_iff_ne.mpr c10
      have c10b1 : (t309 != 0) = true := bne_iff_ne.mpr c10
      exact absurd (Option.some.inj H) (by rw [hr0_.out]; decide)
    rw [if_pos c10] at H
    have c10b0 : (t309 == 0) = true := beq_iff_eq.mpr c10
    have c10b1 : (t309 != 0) = false := bne_eq_false_iff_eq.mpr c10
    clear c10
    have HC11 := Aside0.mk H
    clear H
    go_enter Tryd.func5, Tryd.ntmps5
    go_upto_if 24 with (first | (go_at_call 15; refine (damperlaw2_within.keep _ _ rfl (by first | decide | assumption | exact wi_ne (by assumption) | exact wi_ne' (by assumption) | omega) _).mono ?_; rintro e w' ⟨rfl, rfl⟩) | ((with_reducible refine gate_callee (f := 11) rfl ?_); refine goesL_ (some 12) rfl rfl Tryd.func11 (by kernel_rfl) rfl #[] rfl (by (try simp only [List.map_toArray, List.map_cons, List.map_nil]); first | done | rfl | (simp only [List.length_drop, List.length_take]; rfl)) ?_; (with_reducible refine (damperlaw2_known.calls k  true _ ?side1 A4.out).mono ?_); (case side1 => first | exact hLd_.out | exact hLd_ | exact ⟨LaidW.below hLd_.out (by repeat (first | (with_reducible first | exact HB.out | apply below_alloc | apply pw_below_drewN | apply below_drew1) | exact HB.out))⟩ | exact ⟨LaidW.below hLd_.out (by repeat (first | exact Below.refl _ _ | apply below_alloc | apply pw_below_drewN | apply below_drew1))⟩); rintro e w12 ⟨rfl, hb⟩; refine ⟨_, rfl, ?_⟩; have n0_ := Aside0.mk (below_step (by repeat (first | (with_reducible first | exact HB.out | apply below_alloc | apply pw_below_drewN | apply below_drew1) | exact HB.out)) hb); clear HB; have HB := n0_; clear n0_; (try clear hb); (try clear hb2); (try clear hk); (try clear hi)) | ((with_reducible refine gate_callee (f := 18) rfl ?_); refine goesL_ (some 15) rfl rfl Tryd.func18 (by kernel_rfl) rfl #[.int .i64 0, .slice A0 l0.length c0, .int .i64 0] rfl (by (try simp only [List.map_toArray, List.map_cons, List.map_nil]); first | done | rfl | (simp only [List.length_drop, List.length_take]; rfl)) ?_; (with_reducible refine (damperlaw2_Route.calls k 0 _ _ l0 0 t302 t303 t304 t307 _ ?side1 ?side2 A6.out).mono ?_); (case side1 => repeat (first | exact (Kd.C_below HR0.out HB.out) | (with_reducible refine Kd.C_alloc ?_ _) | (with_reducible refine Kd.C_drewN ?_ _) | (with_reducible refine Kd.C_drew ?_))); (case side2 => exact HC0.out); rintro e w13 ⟨v305, rfl, ho0, hb⟩; refine ⟨_, rfl, ?_⟩; have n0_ := Aside0.mk (Kd.R_lower ho0 (below_size (by repeat (first | (with_reducible first | exact HB.out | apply below_alloc | apply pw_below_drewN | apply below_drew1) | exact HB.out)))); have n1_ := Aside0.mk (below_step (by repeat (first | (with_reducible first | exact HB.out | apply below_alloc | apply pw_below_drewN | apply below_drew1) | exact HB.out)) hb); clear HB; have HO306 := n0_; have HB := n1_; clear n0_ n1_; (try clear hb); (try clear hb2); (try clear hk); (try clear hi); (try clear ho0)) | ((with_reducible refine gate_dst (N := 7) rfl ?_); refine box_event ?hg (N := 7) ?hd (cs := #[.string (⟨#[]⟩ : ByteArray), .string (⟨#[]⟩ : ByteArray), .slice none 0 0, .int .i64 0]) (t := 35) ?hr ?_; (case hd => rfl); (case hg => rfl); (case hr => first | (go_simp; done) | (go_simp; rfl)); intro gb308 hg w14 hbox hb; have n0_ := Aside0.mk (Kd.R_below (by (with_reducible repeat (first | apply Kd.R_alloc | apply Kd.R_drewN | apply Kd.R_drew)); exact HO306.out) hb); have n1_ := Aside0.mk (below_step (by repeat (first | (with_reducible first | exact HB.out | apply below_alloc | apply pw_below_drewN | apply below_drew1) | exact HB.out)) hb); have n2_ := Aside0.mk (hbox); have n3_ := Aside0.mk ((by rw [hg]; exact (below_size (by repeat (first | (with_reducible first | exact HB.out | apply below_alloc | apply pw_below_drewN | apply below_drew1) | exact HB.out))) : w.heap.size ≤ gb308)); have n4_ := Aside0.mk ((by rw [hg]; exact (below_size (by repeat (first | (with_reducible first | exact HB.out | apply below_alloc | apply pw_below_drewN | apply below_drew1) | exact HB.out))) : w.heap.size ≤ gb308)); clear HO306; clear HB; have HO306 := n0_; have HB := n1_; have BK308 := n2_; have GW308 := n3_; have GE308 := n4_; clear n0_ n1_ n2_ n3_ n4_; clear hb hbox hg; have hcz15_0 : w14.cell? ⟨gb308, 0, none⟩ = some (.string (⟨#[]⟩ : ByteArray)) := bc BK308 0; have hcz15_1 : w14.cell? ⟨gb308, 1, none⟩ = some (.string (⟨#[]⟩ : ByteArray)) := bc BK308 1; have hcz15_2 : w14.cell? ⟨gb308, 2, none⟩ = some (.slice none 0 0) := bc BK308 2; have hcz15_3 : w14.cell? ⟨gb308, 3, none⟩ = some (.int .i64 0) := bc BK308 3; have hfz15_0 := blk_frozen BK308.out 0; have hfz15_1 := blk_frozen BK308.out 1; have hfz15_2 := blk_frozen BK308.out 2; have hfz15_3 := blk_frozen BK308.out 3; obtain ⟨Ao16, co16, eo16⟩ := Kd.R_slice HO306.out; subst eo16) | ((with_reducible refine gate_callee (f := 19) rfl ?_); refine goesL_ (some 22) rfl rfl Tryd.func19 (by kernel_rfl) rfl #[.agg #[.string t302, .string t303, .slice Ao16 t304.length co16, .int .i64 t307]] rfl (by (try simp only [List.map_toArray, List.map_cons, List.map_nil]); first | done | rfl | (simp only [List.length_drop, List.length_take]; rfl)) ?_; (with_reducible refine (spec_Route.calls k t302 t303 _ _ t304 t307 t309 _ ?side3 ?side1 ?side2 A9.out).mono ?_); (case side1 => refine (Kd.R_reads' (e := 41) (base := w.heap.size) (ok := fun k_ => True) (n := t304.length) (c := co16) ?_).2.2; exact (by (with_reducible repeat (first | apply Kd.R_alloc | apply Kd.R_drewN | apply Kd.R_drew)); exact (Kd.R_mono (Kd.R_far (p := ⟨gb308, 3, none⟩) (Kd.R_far (p := ⟨gb308, 2, none⟩) (Kd.R_far (p := ⟨gb308, 1, none⟩) (Kd.R_far (p := ⟨gb308, 0, none⟩) (Kd.R_types HO306.out BK308.out (by decide)) (fun _ hk => hk.2) (.string t302)) (fun _ hk => hk.2) (.string t303)) (fun _ hk => hk.2) (.slice Ao16 t304.length co16)) (fun _ hk => hk.2) (.int .i64 t307)) (fun _ h_ => h_.1)))); (case side2 => exact (Kd.R_reads' HO306.out).2.1); (case side3 => first | exact hLd_.out | exact hLd_ | exact ⟨LaidW.below hLd_.out (by repeat (first | (with_reducible first | exact HB.out | apply below_alloc | apply pw_below_drewN | apply below_drew1 | refine below_set ?_ GE308.out) | exact HB.out))⟩ | exact ⟨LaidW.below hLd_.out (by repeat (first | exact Below.refl _ _ | apply below_alloc | apply pw_below_drewN | apply below_drew1))⟩); rintro e w17 ⟨rfl, hb⟩; refine ⟨_, rfl, ?_⟩; have n0_ := Aside0.mk (Kd.R_below (by (with_reducible repeat (first | apply Kd.R_alloc | apply Kd.R_drewN | apply Kd.R_drew)); exact (Kd.R_mono (Kd.R_far (p := ⟨gb308, 3, none⟩) (Kd.R_far (p := ⟨gb308, 2, none⟩) (Kd.R_far (p := ⟨gb308, 1, none⟩) (Kd.R_far (p := ⟨gb308, 0, none⟩) (Kd.R_types HO306.out BK308.out (by decide)) (fun _ hk => hk.2) (.string t302)) (fun _ hk => hk.2) (.string t303)) (fun _ hk => hk.2) (.slice Ao16 t304.length co16)) (fun _ hk => hk.2) (.int .i64 t307)) (fun _ h_ => h_.1))) hb); have n1_ := Aside0.mk (blk_below (g := gb308) (o := .cells #[.string t302, .string t303, .slice Ao16 t304.length co16, .int .i64 t307] 35 (0, 0)) (by (with_reducible repeat (first | refine blk_drewN ?_ _ | refine blk_drew ?_ | refine blk_alloc ?_ _)); refine blk_put (cs := #[.string t302, .string t303, .slice Ao16 t304.length co16, .int .i64 0]) ?_ 3 _ rfl; (with_reducible repeat (first | refine blk_drewN ?_ _ | refine blk_drew ?_ | refine blk_alloc ?_ _)); refine blk_put (cs := #[.string t302, .string t303, .slice none 0 0, .int .i64 0]) ?_ 2 _ rfl; (with_reducible repeat (first | refine blk_drewN ?_ _ | refine blk_drew ?_ | refine blk_alloc ?_ _)); refine blk_put (cs := #[.string t302, .string (⟨#[]⟩ : ByteArray), .slice none 0 0, .int .i64 0]) ?_ 1 _ rfl; (with_reducible repeat (first | refine blk_drewN ?_ _ | refine blk_drew ?_ | refine blk_alloc ?_ _)); refine blk_put (cs := #[.string (⟨#[]⟩ : ByteArray), .string (⟨#[]⟩ : ByteArray), .slice none 0 0, .int .i64 0]) ?_ 0 _ rfl; (with_reducible repeat (first | refine blk_drewN ?_ _ | refine blk_drew ?_ | refine blk_alloc ?_ _)); exact BK308.out) hb); have n2_ := Aside0.mk (below_step (by repeat (first | (with_reducible first | exact HB.out | apply below_alloc | apply pw_below_drewN | apply below_drew1 | refine below_set ?_ GE308.out) | exact HB.out)) hb); clear HO306; clear BK308; clear HB; have HO306 := n0_; have BK308 := n1_; have HB := n2_; clear n0_ n1_ n2_; (try clear hb); (try clear hb2); (try clear hk); (try clear hi)))
    (try simp only [Act.put, List.setIfInBounds_toArray, List.set_cons_zero, List.set_cons_succ])
    go_cut [9] (fun v9 wc => ∃ (kq : Nat) (x9_10 : Int), v9 = .int .i64 x9_10 ∧ Aside0 (damperlaw2_SpecHundred.j0 kq ji8 x9_10 t302 t303 t304 t307 = some r) ∧ Aside0 (kq ≤ k) ∧ Aside0 (Kd.R k41 41 wc w.heap.size (fun _ => True) (.slice Ao16 t304.length co16) t304) ∧ Aside0 (wc.heap[gb308]? = some (.cells #[.string t302, .string t303, (.slice Ao16 t304.length co16), .int .i64 t307] 35 (0, 0))) ∧ Aside0 (Below w.heap.size w wc))
    case first =>
      have H := HC11.out
      clear HC11
      by_cases c18 : a2 = true
      · subst c18
        have H1 : (damperlaw2_SpecHundred.j0 k ji8 1 t302 t303 t304 t307) = some r := by rw [if_pos rfl] at H; exact H
        clear H
        have H := H1
        clear H1
        have H' := Aside0.mk H
        clear H
        go_wp2_with (first | (go_at_call 15; refine (damperlaw2_within.keep _ _ rfl (by first | decide | assumption | exact wi_ne (by assumption) | exact wi_ne' (by assumption) | omega) _).mono ?_; rintro e w' ⟨rfl, rfl⟩))
        go_meet
        case rel => exact ⟨_, (1), (by first | rfl | (simp; done) | (simp [*]; done)), H', ⟨by first | omega | exact Nat.le_refl _⟩, ⟨by (with_reducible repeat (first | apply Kd.R_alloc | apply Kd.R_drewN | apply Kd.R_drew)); exact HO306.out⟩, ⟨by (with_reducible repeat (first | refine blk_drewN ?_ _ | refine blk_drew ?_ | refine blk_alloc ?_ _)); exact BK308.out⟩, ⟨by repeat (first | (with_reducible first | exact HB.out | apply below_alloc | apply pw_below_drewN | apply below_drew1 | refine below_set ?_ GE308.out) | exact HB.out)⟩⟩
      · replace c18 := Bool.eq_false_iff.mpr c18
        subst c18
        have H1 : (damperlaw2_SpecHundred.j0 k ji8 (-1) t302 t303 t304 t307) = some r := by rw [if_neg (show ¬ (false = true) by decide)] at H; exact H
        clear H
        have H := H1
        clear H1
        have H' := Aside0.mk H
        clear H
        go_wp2_with (first | (go_at_call 15; refine (damperlaw2_within.keep _ _ rfl (by first | decide | assumption | exact wi_ne (by assumption) | exact wi_ne' (by assumption) | omega) _).mono ?_; rintro e w' ⟨rfl, rfl⟩))
        go_meet
        case rel => exact ⟨_, ((-1)), (by first | rfl | (simp; done) | (simp [*]; done)), H', ⟨by first | omega | exact Nat.le_refl _⟩, ⟨by (with_reducible repeat (first | apply Kd.R_alloc | apply Kd.R_drewN | apply Kd.R_drew)); exact HO306.out⟩, ⟨by (with_reducible repeat (first | refine blk_drewN ?_ _ | refine blk_drew ?_ | refine blk_alloc ?_ _)); exact BK308.out⟩, ⟨by repeat (first | (with_reducible first | exact HB.out | apply below_alloc | apply pw_below_drewN | apply below_drew1 | refine below_set ?_ GE308.out) | exact HB.out)⟩⟩
    case rest =>
      clear HC11
      try clear c1
      try clear p2
      try clear c5
      try clear c7
      try clear c7b0
      try clear c7b1
      try clear c7b2
      try clear c10
      try clear c10b0
      try clear c10b1
      try clear c11
      try clear c18
      try clear hcz15_0
      try clear hcz15_1
      try clear hcz15_2
      try clear hcz15_3
      try clear hfz15_0
      try clear hfz15_1
      try clear hfz15_2
      try clear hfz15_3
      obtain ⟨kq, x9_10, rfl, HA, HJ10, HO_309002, BK308, HB⟩ := hcut
      cases kq with
      | zero => exact absurd HA.out (by simp [damperlaw2_SpecHundred.j0])
      | succ kj10 =>
        have H := HA.out
        clear HA
        simp only [damperlaw2_SpecHundred.j0] at H
        by_cases c19 : 0 ≤ ji8
        rotate_left
        · rw [if_neg c19] at H
          exact absurd H (by simp)
        rw [if_pos c19] at H
        have c19b0 : decide (0 ≤ ji8) = true := decide_eq_true c19
        clear c19
        by_cases c20 : ji8 < (t304.length : Int)
        rotate_left
        · rw [if_neg c20] at H
          exact absurd H (by simp)
        rw [if_pos c20] at H
        have c20b0 : decide (ji8 < (t304.length : Int)) = true := decide_eq_true c20
        clear c20
        obtain ⟨y311, hy311⟩ : ∃ y_ : List (S41), y_ = (t304.set (ji8 : Int).toNat (⟨(rd_T41 t304 ji8).f0, (rd_T41 t304 ji8).f1, wrap64 (((rd_T41 t304 ji8).f2) + x9_10)⟩ : S41)) := ⟨_, rfl⟩
        replace H : (if (wrap64 (((rd_T41 t304 ji8).f2) + x9_10)) < 0 then ((spec_Route.f kj10 t302 t303 y311 t307).bind fun t312 => (some (t312 == 2))) else (if (wrap64 (((rd_T41 t304 ji8).f2) + x9_10)) > 100 then (damperlaw2_SpecHundred.j1 kj10 2 t302 t303 y311 t307) else (damperlaw2_SpecHundred.j1 kj10 4 t302 t303 y311 t307))) = some r := by first | (rw [hy311]; with_reducible exact H) | (have H2_ := (Option.bind_some _ _).symm.trans H; rw [hy311]; with_reducible exact H2_) | (have H2_ := (Option.bind_some _ _).symm.trans H; with_reducible exact H2_) | with_reducible exact H | (rw [hy311]; exact H) | exact H
        have Ny311 := Aside0.mk hy311
        clear hy311
        by_cases c22 : (wrap64 (((rd_T41 t304 ji8).f2) + x9_10)) < 0
        · rw [if_pos c22] at H
          have c22b0 : decide ((wrap64 (((rd_T41 t304 ji8).f2) + x9_10)) < 0) = true := decide_eq_true c22
          clear c22
          replace H := Option.bind_eq_some_iff.mp H
          obtain ⟨t312, A230, H⟩ := H
          replace H : (some (t312 == 2)) = some r := H
          have A23 := Aside0.mk A230
          clear A230
          obtain rfl := Option.some.inj H
          have hcz24_0 : wc.cell? ⟨gb308, 0, none⟩ = some (.string t302) := bc BK308 0
          have hcz24_1 : wc.cell? ⟨gb308, 1, none⟩ = some (.string t303) := bc BK308 1
          have hcz24_2 : wc.cell? ⟨gb308, 2, none⟩ = some (.slice Ao16 t304.length co16) := bc BK308 2
          have hcz24_3 : wc.cell? ⟨gb308, 3, none⟩ = some (.int .i64 t307) := bc BK308 3
          have hfz24_0 := blk_frozen BK308.out 0
          have hfz24_1 := blk_frozen BK308.out 1
          have hfz24_2 := blk_frozen BK308.out 2
          have hfz24_3 := blk_frozen BK308.out 3
          have p310 : 0 ≤ (ji8 : Int) := of_decide_eq_true (by first | (with_reducible assumption) | assumption)
          have q310 : ji8 < (t304.length : Int) := of_decide_eq_true (by first | (with_reducible assumption) | assumption)
          obtain ⟨ad310, e310, hx310_0, hx310_1, hx310_2⟩ := at_T41 (Kd.R_reads' HO_309002.out).2.2 ji8 p310 q310
          cases e310
          replace p310 := eq_true p310
          replace q310 := eq_true q310
          have p21 : 0 ≤ (ji8 : Int) := of_decide_eq_true (by first | (with_reducible assumption) | assumption)
          have q21 : (ji8 : Int) < ((t304.length : Int) : Int) := of_decide_eq_true (by first | (with_reducible assumption) | assumption)
          obtain ⟨go21, co21, eo21, gb21, gl21, cl21, HG21⟩ := Kd.R_form HO_309002.out (by omega)
          (first | cases eo21 | (injection eo21 with ea_ en_ ec_; (first | subst ea_ | (injection ea_ with ea_; subst ea_)); subst ec_; clear en_))
          have GB21 := Aside0.mk gb21
          have GG21 := Aside0.mk HG21
          clear gb21 gl21 HG21
          (first | simp only [add_plain] at hx310_0 | skip)
          (first | simp only [add_plain] at hx310_1 | skip)
          (first | simp only [add_plain] at hx310_2 | skip)
          obtain ⟨ce21, hcl21, hM21, hcc21, hfr21⟩ := Kd.R_elem HO_309002.out z41 (ji8 : Int) p21 q21
          obtain rfl := k41_openM hM21
          have hx21_0 : wc.cell? ⟨go21, (ji8 : Int).toNat * 3, none⟩ = some (.string ((rd_T41 t304 ji8).f0)) := hcc21 0 _ rfl
          have hx21_1 : wc.cell? ⟨go21, (ji8 : Int).toNat * 3 + 1, none⟩ = some (.string ((rd_T41 t304 ji8).f1)) := hcc21 1 _ rfl
          have hx21_2 : wc.cell? ⟨go21, (ji8 : Int).toNat * 3 + 2, none⟩ = some (.int .i64 ((rd_T41 t304 ji8).f2)) := hcc21 2 _ rfl
          have hf21_0 : wc.frozen? ⟨go21, (ji8 : Int).toNat * 3, none⟩ = false := hfr21 0
          have hf21_1 : wc.frozen? ⟨go21, (ji8 : Int).toNat * 3 + 1, none⟩ = false := hfr21 1
          have hf21_2 : wc.frozen? ⟨go21, (ji8 : Int).toNat * 3 + 2, none⟩ = false := hfr21 2
          clear hcl21 hcc21 hfr21 hM21
          replace p21 := eq_true p21
          replace q21 := eq_true q21
          have HX25 := Aside0.mk (show Kd.R k41 41 wc w.heap.size (fun _ => True) (.slice (some ⟨go21, 0, none⟩) t304.length co16) t304 from (by (with_reducible repeat (first | apply Kd.R_alloc | apply Kd.R_drewN | apply Kd.R_drew)); exact HO_309002.out))
          obtain ⟨ce25, hcl25, hM25, hcc25, hfr25⟩ := Kd.R_elem HX25.out z41 (ji8 : Int) (of_decide_eq_true (by first | (with_reducible assumption) | assumption)) (by have h_ : (ji8 : Int) < ((t304.length : Int) : Int) := of_decide_eq_true (by first | (with_reducible assumption) | assumption); first | exact h_ | (have e_ := (Kd.R_reads' HO_309002.out).1; omega) | simpa using h_)
          obtain rfl := k41_openM hM25
          have HP25 := Kd.R_seg HX25.out (ji8 : Int) (of_decide_eq_true (by first | (with_reducible assumption) | assumption)) (by have h_ : (ji8 : Int) < ((t304.length : Int) : Int) := of_decide_eq_true (by first | (with_reducible assumption) | assumption); first | exact h_ | (have e_ := (Kd.R_reads' HO_309002.out).1; omega) | simpa using h_) (seg := [.int .i64 (wrap64 (((rd_T41 t304 ji8).f2) + x9_10))]) (j := 2) hcl25 hcc25 (show 3 ≤ 3 from by decide) (x' := (⟨(rd_T41 t304 ji8).f0, (rd_T41 t304 ji8).f1, wrap64 (((rd_T41 t304 ji8).f2) + x9_10)⟩ : S41)) (k41_mkM _ _ _ (⟨(rd_T41 t304 ji8).f0, (rd_T41 t304 ji8).f1, wrap64 (((rd_T41 t304 ji8).f2) + x9_10)⟩ : S41) ) (fun _ hk => hk)
          have hx25_2 := hcc25 2 _ rfl
          (try simp only [show (k41).sz = 3 from rfl, Nat.mul_one, Nat.add_zero] at hx25_2)
          have hf25_2 := hfr25 2
          (try simp only [show (k41).sz = 3 from rfl, Nat.mul_one, Nat.add_zero] at hf25_2)
          clear hcl25 hcc25 hfr25 hM25
          go_wp2_with (first | (go_at_call 15; refine (damperlaw2_within.keep _ _ rfl (by first | decide | assumption | exact wi_ne (by assumption) | exact wi_ne' (by assumption) | omega) _).mono ?_; rintro e w' ⟨rfl, rfl⟩) | ((with_reducible refine gate_store (t := 3) (p := 38) rfl ?_); refine store_event (t := 3) (p := 38) (v := ?vo_w26) (w1 := (wc.setCell ⟨go21, (ji8 : Int).toNat * 3 + 2, none⟩ (.int .i64 (wrap64 (((rd_T41 t304 ji8).f2) + x9_10))))) ?hg ?ho ?hn ?hr ?_; (case ho => rfl); (case hg => rfl); (case hn => rfl); (case hr => first | (go_simp; done) | (go_simp; rfl)); intro w26 hw; have hg : wc.grownBy w26 (some go21) := (by rw [hw]; exact HP25.2); have hp_ : Kd.R k41 41 w26 w.heap.size (fun _ => True) (.slice (some ⟨go21, 0, none⟩) t304.length co16) y311 := (by rw [hw, Ny311.out]; exact HP25.1); clear HP25; have n0_ := Aside0.mk (hp_); have n1_ := Aside0.mk (blk_grown (g := gb308) (pk BK308) hg (Kd.R_ne HO_309002.out BK308.out (by decide))); have n2_ := Aside0.mk ((by rw [hw]; exact below_set (HB.out) GB21.out : Below w.heap.size w w26)); clear HO_309002; clear BK308; clear HB; have HO_309002 := n0_; have BK308 := n1_; have HB := n2_; clear n0_ n1_ n2_; clear hg hw hp_; have hcz27_0 : w26.cell? ⟨gb308, 0, none⟩ = some (.string t302) := bc BK308 0; have hcz27_1 : w26.cell? ⟨gb308, 1, none⟩ = some (.string t303) := bc BK308 1; have hcz27_2 : w26.cell? ⟨gb308, 2, none⟩ = some (.slice (some ⟨go21, 0, none⟩) t304.length co16) := bc BK308 2; have hcz27_3 : w26.cell? ⟨gb308, 3, none⟩ = some (.int .i64 t307) := bc BK308 3; have hfz27_0 := blk_frozen BK308.out 0; have hfz27_1 := blk_frozen BK308.out 1; have hfz27_2 := blk_frozen BK308.out 2; have hfz27_3 := blk_frozen BK308.out 3) | ((with_reducible refine gate_callee (f := 19) rfl ?_); refine goesL_ (some 46) rfl rfl Tryd.func19 (by kernel_rfl) rfl #[.agg #[.string t302, .string t303, .slice (some ⟨go21, 0, none⟩) y311.length co16, .int .i64 t307]] rfl (by (try simp only [List.map_toArray, List.map_cons, List.map_nil]); first | done | (rw [show y311.length = t304.length from (Kd.R_reads' HO_309002.out).1.symm] <;> rfl) | rfl | (simp only [List.length_drop, List.length_take]; rfl)) ?_; (with_reducible refine (spec_Route.calls kj10 t302 t303 _ _ y311 t307 t312 _ ?side3 ?side1 ?side2 A23.out).mono ?_); (case side1 => repeat (first | exact (Kd.R_reads' HO_309002.out).2.2 | (with_reducible refine Kd.C_alloc ?_ _) | (with_reducible refine Kd.C_drewN ?_ _) | (with_reducible refine Kd.C_drew ?_))); (case side2 => rw [show y311.length = t304.length from (Kd.R_reads' HO_309002.out).1.symm]; exact (Kd.R_reads' HO_309002.out).2.1); (case side3 => first | exact hLd_.out | exact hLd_ | exact ⟨LaidW.below hLd_.out (by repeat (first | (with_reducible first | exact HB.out | apply below_alloc | apply pw_below_drewN | apply below_drew1 | refine below_set ?_ GE308.out) | exact HB.out))⟩ | exact ⟨LaidW.below hLd_.out (by repeat (first | exact Below.refl _ _ | apply below_alloc | apply pw_below_drewN | apply below_drew1))⟩); rintro e w28 ⟨rfl, hb⟩; refine ⟨_, rfl, ?_⟩; have n0_ := Aside0.mk (Kd.R_below (by (with_reducible repeat (first | apply Kd.R_alloc | apply Kd.R_drewN | apply Kd.R_drew)); exact HO_309002.out) hb); have n1_ := Aside0.mk (blk_below (g := gb308) (pk BK308) hb); have n2_ := Aside0.mk (below_step (by repeat (first | (with_reducible first | exact HB.out | apply below_alloc | apply pw_below_drewN | apply below_drew1 | refine below_set ?_ GE308.out) | exact HB.out)) hb); clear HO_309002; clear BK308; clear HB; have HO_309002 := n0_; have BK308 := n1_; have HB := n2_; clear n0_ n1_ n2_; (try clear hb); (try clear hb2); (try clear hk); (try clear hi)))
          go_ret
          exact ⟨by first | rfl | (simp [errW_none, errW_some] <;> rfl) | (simp only [← hji8]; first | rfl | (simp [errW_none, errW_some] <;> rfl)) | (simp [*, errW_none, errW_some] <;> rfl), by repeat (first | (with_reducible first | exact HB.out | apply below_alloc | apply pw_below_drewN | apply below_drew1 | refine below_set ?_ GE308.out) | exact HB.out)⟩
        · rw [if_neg c22] at H
          have c22b0 : decide ((wrap64 (((rd_T41 t304 ji8).f2) + x9_10)) < 0) = false := decide_eq_false c22
          clear c22
          have HC29 := Aside0.mk H
          clear H
          have hcz30_0 : wc.cell? ⟨gb308, 0, none⟩ = some (.string t302) := bc BK308 0
          have hcz30_1 : wc.cell? ⟨gb308, 1, none⟩ = some (.string t303) := bc BK308 1
          have hcz30_2 : wc.cell? ⟨gb308, 2, none⟩ = some (.slice Ao16 t304.length co16) := bc BK308 2
          have hcz30_3 : wc.cell? ⟨gb308, 3, none⟩ = some (.int .i64 t307) := bc BK308 3
          have hfz30_0 := blk_frozen BK308.out 0
          have hfz30_1 := blk_frozen BK308.out 1
          have hfz30_2 := blk_frozen BK308.out 2
          have hfz30_3 := blk_frozen BK308.out 3
          have p310 : 0 ≤ (ji8 : Int) := of_decide_eq_true (by first | (with_reducible assumption) | assumption)
          have q310 : ji8 < (t304.length : Int) := of_decide_eq_true (by first | (with_reducible assumption) | assumption)
          obtain ⟨ad310, e310, hx310_0, hx310_1, hx310_2⟩ := at_T41 (Kd.R_reads' HO_309002.out).2.2 ji8 p310 q310
          cases e310
          replace p310 := eq_true p310
          replace q310 := eq_true q310
          have p21 : 0 ≤ (ji8 : Int) := of_decide_eq_true (by first | (with_reducible assumption) | assumption)
          have q21 : (ji8 : Int) < ((t304.length : Int) : Int) := of_decide_eq_true (by first | (with_reducible assumption) | assumption)
          obtain ⟨go21, co21, eo21, gb21, gl21, cl21, HG21⟩ := Kd.R_form HO_309002.out (by omega)
          (first | cases eo21 | (injection eo21 with ea_ en_ ec_; (first | subst ea_ | (injection ea_ with ea_; subst ea_)); subst ec_; clear en_))
          have GB21 := Aside0.mk gb21
          have GG21 := Aside0.mk HG21
          clear gb21 gl21 HG21
          (first | simp only [add_plain] at hx310_0 | skip)
          (first | simp only [add_plain] at hx310_1 | skip)
          (first | simp only [add_plain] at hx310_2 | skip)
          obtain ⟨ce21, hcl21, hM21, hcc21, hfr21⟩ := Kd.R_elem HO_309002.out z41 (ji8 : Int) p21 q21
          obtain rfl := k41_openM hM21
          have hx21_0 : wc.cell? ⟨go21, (ji8 : Int).toNat * 3, none⟩ = some (.string ((rd_T41 t304 ji8).f0)) := hcc21 0 _ rfl
          have hx21_1 : wc.cell? ⟨go21, (ji8 : Int).toNat * 3 + 1, none⟩ = some (.string ((rd_T41 t304 ji8).f1)) := hcc21 1 _ rfl
          have hx21_2 : wc.cell? ⟨go21, (ji8 : Int).toNat * 3 + 2, none⟩ = some (.int .i64 ((rd_T41 t304 ji8).f2)) := hcc21 2 _ rfl
          have hf21_0 : wc.frozen? ⟨go21, (ji8 : Int).toNat * 3, none⟩ = false := hfr21 0
          have hf21_1 : wc.frozen? ⟨go21, (ji8 : Int).toNat * 3 + 1, none⟩ = false := hfr21 1
          have hf21_2 : wc.frozen? ⟨go21, (ji8 : Int).toNat * 3 + 2, none⟩ = false := hfr21 2
          clear hcl21 hcc21 hfr21 hM21
          replace p21 := eq_true p21
          replace q21 := eq_true q21
          have HX31 := Aside0.mk (show Kd.R k41 41 wc w.heap.size (fun _ => True) (.slice (some ⟨go21, 0, none⟩) t304.length co16) t304 from (by (with_reducible repeat (first | apply Kd.R_alloc | apply Kd.R_drewN | apply Kd.R_drew)); exact HO_309002.out))
          obtain ⟨ce31, hcl31, hM31, hcc31, hfr31⟩ := Kd.R_elem HX31.out z41 (ji8 : Int) (of_decide_eq_true (by first | (with_reducible assumption) | assumption)) (by have h_ : (ji8 : Int) < ((t304.length : Int) : Int) := of_decide_eq_true (by first | (with_reducible assumption) | assumption); first | exact h_ | (have e_ := (Kd.R_reads' HO_309002.out).1; omega) | simpa using h_)
          obtain rfl := k41_openM hM31
          have HP31 := Kd.R_seg HX31.out (ji8 : Int) (of_decide_eq_true (by first | (with_reducible assumption) | assumption)) (by have h_ : (ji8 : Int) < ((t304.length : Int) : Int) := of_decide_eq_true (by first | (with_reducible assumption) | assumption); first | exact h_ | (have e_ := (Kd.R_reads' HO_309002.out).1; omega) | simpa using h_) (seg := [.int .i64 (wrap64 (((rd_T41 t304 ji8).f2) + x9_10))]) (j := 2) hcl31 hcc31 (show 3 ≤ 3 from by decide) (x' := (⟨(rd_T41 t304 ji8).f0, (rd_T41 t304 ji8).f1, wrap64 (((rd_T41 t304 ji8).f2) + x9_10)⟩ : S41)) (k41_mkM _ _ _ (⟨(rd_T41 t304 ji8).f0, (rd_T41 t304 ji8).f1, wrap64 (((rd_T41 t304 ji8).f2) + x9_10)⟩ : S41) ) (fun _ hk => hk)
          have hx31_2 := hcc31 2 _ rfl
          (try simp only [show (k41).sz = 3 from rfl, Nat.mul_one, Nat.add_zero] at hx31_2)
          have hf31_2 := hfr31 2
          (try simp only [show (k41).sz = 3 from rfl, Nat.mul_one, Nat.add_zero] at hf31_2)
          clear hcl31 hcc31 hfr31 hM31
          go_upto_if 44 with (first | (go_at_call 15; refine (damperlaw2_within.keep _ _ rfl (by first | decide | assumption | exact wi_ne (by assumption) | exact wi_ne' (by assumption) | omega) _).mono ?_; rintro e w' ⟨rfl, rfl⟩) | ((with_reducible refine gate_store (t := 3) (p := 38) rfl ?_); refine store_event (t := 3) (p := 38) (v := ?vo_w32) (w1 := (wc.setCell ⟨go21, (ji8 : Int).toNat * 3 + 2, none⟩ (.int .i64 (wrap64 (((rd_T41 t304 ji8).f2) + x9_10))))) ?hg ?ho ?hn ?hr ?_; (case ho => rfl); (case hg => rfl); (case hn => rfl); (case hr => first | (go_simp; done) | (go_simp; rfl)); intro w32 hw; have hg : wc.grownBy w32 (some go21) := (by rw [hw]; exact HP31.2); have hp_ : Kd.R k41 41 w32 w.heap.size (fun _ => True) (.slice (some ⟨go21, 0, none⟩) t304.length co16) y311 := (by rw [hw, Ny311.out]; exact HP31.1); clear HP31; have n0_ := Aside0.mk (hp_); have n1_ := Aside0.mk (blk_grown (g := gb308) (pk BK308) hg (Kd.R_ne HO_309002.out BK308.out (by decide))); have n2_ := Aside0.mk ((by rw [hw]; exact below_set (HB.out) GB21.out : Below w.heap.size w w32)); clear HO_309002; clear BK308; clear HB; have HO_309002 := n0_; have BK308 := n1_; have HB := n2_; clear n0_ n1_ n2_; clear hg hw hp_))
          (try simp only [Act.put, List.setIfInBounds_toArray, List.set_cons_zero, List.set_cons_succ])
          go_cut [11] (fun v11 wc => ∃ (kq : Nat) (x11_28 : Int), v11 = .int .i64 x11_28 ∧ Aside0 (damperlaw2_SpecHundred.j1 kq x11_28 t302 t303 y311 t307 = some r) ∧ Aside0 (kq ≤ kj10) ∧ Aside0 (Kd.R k41 41 wc w.heap.size (fun _ => True) (.slice (some ⟨go21, 0, none⟩) t304.length co16) y311) ∧ Aside0 (wc.heap[gb308]? = some (.cells #[.string t302, .string t303, (.slice (some ⟨go21, 0, none⟩) t304.length co16), .int .i64 t307] 35 (0, 0))) ∧ Aside0 (Below w.heap.size w wc))
          case first =>
            have H := HC29.out
            clear HC29
            by_cases c33 : (wrap64 (((rd_T41 t304 ji8).f2) + x9_10)) > 100
            · rw [if_pos c33] at H
              have c33b0 : decide (100 < (wrap64 (((rd_T41 t304 ji8).f2) + x9_10))) = true := decide_eq_true c33
              clear c33
              (first | rw [c33b0] | (simp only [i64_w, i32_w]; rw [c33b0]) | rw [c33b1] | skip)
              have H' := Aside0.mk H
              clear H
              go_wp2_with (first | (go_at_call 15; refine (damperlaw2_within.keep _ _ rfl (by first | decide | assumption | exact wi_ne (by assumption) | exact wi_ne' (by assumption) | omega) _).mono ?_; rintro e w' ⟨rfl, rfl⟩))
              go_meet
              case rel => exact ⟨_, (2), (by first | rfl | (simp; done) | (simp [*]; done)), H', ⟨by have := HJ10.out; first | omega | exact Nat.le_refl _⟩, ⟨by (with_reducible repeat (first | apply Kd.R_alloc | apply Kd.R_drewN | apply Kd.R_drew)); exact HO_309002.out⟩, ⟨by (with_reducible repeat (first | refine blk_drewN ?_ _ | refine blk_drew ?_ | refine blk_alloc ?_ _)); exact BK308.out⟩, ⟨by repeat (first | (with_reducible first | exact HB.out | apply below_alloc | apply pw_below_drewN | apply below_drew1 | refine below_set ?_ GE308.out) | exact HB.out)⟩⟩
            · rw [if_neg c33] at H
              have c33b0 : decide (100 < (wrap64 (((rd_T41 t304 ji8).f2) + x9_10))) = false := decide_eq_false c33
              clear c33
              (first | rw [c33b0] | (simp only [i64_w, i32_w]; rw [c33b0]) | rw [c33b1] | skip)
              have H' := Aside0.mk H
              clear H
              go_wp2_with (first | (go_at_call 15; refine (damperlaw2_within.keep _ _ rfl (by first | decide | assumption | exact wi_ne (by assumption) | exact wi_ne' (by assumption) | omega) _).mono ?_; rintro e w' ⟨rfl, rfl⟩))
              go_meet
              case rel => exact ⟨_, (4), (by first | rfl | (simp; done) | (simp [*]; done)), H', ⟨by have := HJ10.out; first | omega | exact Nat.le_refl _⟩, ⟨by (with_reducible repeat (first | apply Kd.R_alloc | apply Kd.R_drewN | apply Kd.R_drew)); exact HO_309002.out⟩, ⟨by (with_reducible repeat (first | refine blk_drewN ?_ _ | refine blk_drew ?_ | refine blk_alloc ?_ _)); exact BK308.out⟩, ⟨by repeat (first | (with_reducible first | exact HB.out | apply below_alloc | apply pw_below_drewN | apply below_drew1 | refine below_set ?_ GE308.out) | exact HB.out)⟩⟩
          case rest =>
            clear HC29
            try clear c1
            try clear c2
            try clear p2
            try clear q2
            try clear hx2
            try clear c3
            try clear p3
            try clear q3
            try clear hx3
            try clear hf3
            try clear c5
            try clear p6
            try clear c7
            try clear c7b0
            try clear c7b1
            try clear c7b2
            try clear c10
            try clear c10b0
            try clear c10b1
            try clear c11
            try clear c18
            try clear c19
            try clear c19b0
            try clear c20
            try clear c20b0
            try clear c21
            try clear p21
            try clear q21
            try clear hx21
            try clear hf21
            try clear c22
            try clear c22b0
            try clear c25
            try clear hx25
            try clear hf25
            try clear c31
            try clear p31
            try clear q31
            try clear hx31
            try clear hf31
            try clear c33
            try clear c33b0
            try clear c33b1
            try clear hcz15_0
            try clear hcz15_1
            try clear hcz15_2
            try clear hcz15_3
            try clear hcz24_0
            try clear hcz24_1
            try clear hcz24_2
            try clear hcz24_3
            try clear hcz27_0
            try clear hcz27_1
            try clear hcz27_2
            try clear hcz27_3
            try clear hcz30_0
            try clear hcz30_1
            try clear hcz30_2
            try clear hcz30_3
            try clear hfz15_0
            try clear hfz15_1
            try clear hfz15_2
            try clear hfz15_3
            try clear hfz24_0
            try clear hfz24_1
            try clear hfz24_2
            try clear hfz24_3
            try clear hfz27_0
            try clear hfz27_1
            try clear hfz27_2
            try clear hfz27_3
            try clear hfz30_0
            try clear hfz30_1
            try clear hfz30_2
            try clear hfz30_3
            try clear hx21_0
            try clear hx21_1
            try clear hx21_2
            try clear hx25_2
            try clear hx310_0
            try clear hx310_1
            try clear hx310_2
            try clear hx31_2
            try clear p2
            try clear p21
            try clear p310
            try clear q21
            try clear q310
            obtain ⟨kq, x11_28, rfl, HA, HJ28, HO_309002, BK308, HB⟩ := hcut
            have hl309002_28 := (Kd.R_reads' HO_309002.out).1
            rw [hl309002_28] at HO_309002
            (try simp only [hl309002_28])
            (try simp only [hl309002_28] at BK308)
            cases kq with
            | zero => exact absurd HA.out (by simp [damperlaw2_SpecHundred.j1])
            | succ kj28 =>
              have H := HA.out
              clear HA
              simp only [damperlaw2_SpecHundred.j1] at H
              replace H := Option.bind_eq_some_iff.mp H
              obtain ⟨t313, A340, H⟩ := H
              replace H : (some (t313 == x11_28)) = some r := H
              have A34 := Aside0.mk A340
              clear A340
              obtain rfl := Option.some.inj H
              have hcz35_0 : wc.cell? ⟨gb308, 0, none⟩ = some (.string t302) := bc BK308 0
              have hcz35_1 : wc.cell? ⟨gb308, 1, none⟩ = some (.string t303) := bc BK308 1
              have hcz35_2 : wc.cell? ⟨gb308, 2, none⟩ = some (.slice (some ⟨go21, 0, none⟩) y311.length co16) := bc BK308 2
              have hcz35_3 : wc.cell? ⟨gb308, 3, none⟩ = some (.int .i64 t307) := bc BK308 3
              have hfz35_0 := blk_frozen BK308.out 0
              have hfz35_1 := blk_frozen BK308.out 1
              have hfz35_2 := blk_frozen BK308.out 2
              have hfz35_3 := blk_frozen BK308.out 3
              go_wp2_with (first | (go_at_call 15; refine (damperlaw2_within.keep _ _ rfl (by first | decide | assumption | exact wi_ne (by assumption) | exact wi_ne' (by assumption) | omega) _).mono ?_; rintro e w' ⟨rfl, rfl⟩) | ((with_reducible refine gate_callee (f := 19) rfl ?_); refine goesL_ (some 46) rfl rfl Tryd.func19 (by kernel_rfl) rfl #[.agg #[.string t302, .string t303, .slice (some ⟨go21, 0, none⟩) y311.length co16, .int .i64 t307]] rfl (by (try simp only [List.map_toArray, List.map_cons, List.map_nil]); first | done | rfl | (simp only [List.length_drop, List.length_take]; rfl)) ?_; (with_reducible refine (spec_Route.calls kj28 t302 t303 _ _ y311 t307 t313 _ ?side3 ?side1 ?side2 A34.out).mono ?_); (case side1 => repeat (first | exact (Kd.R_reads' HO_309002.out).2.2 | (with_reducible refine Kd.C_alloc ?_ _) | (with_reducible refine Kd.C_drewN ?_ _) | (with_reducible refine Kd.C_drew ?_))); (case side2 => exact (Kd.R_reads' HO_309002.out).2.1); (case side3 => first | exact hLd_.out | exact hLd_ | exact ⟨LaidW.below hLd_.out (by repeat (first | (with_reducible first | exact HB.out | apply below_alloc | apply pw_below_drewN | apply below_drew1 | refine below_set ?_ GE308.out) | exact HB.out))⟩ | exact ⟨LaidW.below hLd_.out (by repeat (first | exact Below.refl _ _ | apply below_alloc | apply pw_below_drewN | apply below_drew1))⟩); rintro e w36 ⟨rfl, hb⟩; refine ⟨_, rfl, ?_⟩; have n0_ := Aside0.mk (Kd.R_below (by (with_reducible repeat (first | apply Kd.R_alloc | apply Kd.R_drewN | apply Kd.R_drew)); exact HO_309002.out) hb); have n1_ := Aside0.mk (blk_below (g := gb308) (pk BK308) hb); have n2_ := Aside0.mk (below_step (by repeat (first | (with_reducible first | exact HB.out | apply below_alloc | apply pw_below_drewN | apply below_drew1 | refine below_set ?_ GE308.out) | exact HB.out)) hb); clear HO_309002; clear BK308; clear HB; have HO_309002 := n0_; have BK308 := n1_; have HB := n2_; clear n0_ n1_ n2_; (try clear hb); (try clear hb2); (try clear hk); (try clear hi)))
              go_ret
              exact ⟨by first | rfl | (simp [errW_none, errW_some] <;> rfl) | (simp only [← hji8]; first | rfl | (simp [errW_none, errW_some] <;> rfl)) | (simp [*, errW_none, errW_some] <;> rfl), by repeat (first | (with_reducible first | exact HB.out | apply below_alloc | apply pw_below_drewN | apply below_drew1 | refine below_set ?_ GE308.out) | exact HB.out)⟩
  · replace c5 := Bool.eq_false_iff.mpr c5
    subst c5
    have H1 : (some false) = some r := by rw [if_neg (show ¬ (false = true) by decide)] at H; exact H
    clear H
    have H := H1
    clear H1
    exact absurd (Option.some.inj H) (by rw [hr0_.out]; decide)

/-- THE ONE PURE STATEMENT of damperlaw2_SpecHundred: yours. -/
def damperlaw2_SpecHundred.Pure : Prop := ∀ (l0 : List Int) (a1 : Int) (a2 : Bool), (l0.length ≤ maxLen ∧ ∀ y_ ∈ l0, (Lit.int .i64 y_).wf = true) → ((Lit.int .i64 a1).wf = true) → ∃ k, damperlaw2_SpecHundred.f k l0 a1 a2 = some true
theorem damperlaw2_SpecHundred.walk (P : damperlaw2_SpecHundred.Pure) (A0 : Option Addr) (c0 : Nat) (l0 : List Int) (a1 : Int) (a2 : Bool) (w : World) (hLd_ : LaidW w) (w0 : l0.length ≤ maxLen ∧ ∀ y_ ∈ l0, (Lit.int .i64 y_).wf = true) (w1 : (Lit.int .i64 a1).wf = true) (hr0 : Kd.C (Kd.int .i64) w A0 l0.length l0) (hc0 : l0.length ≤ c0) :
    Calls Tryd.prog 5 #[.slice A0 l0.length c0, .int .i64 a1, .bool a2] w fun e w' => e = .returned (.bool true) ∧ Below w.heap.size w w' := by
  obtain ⟨k, h⟩ := P l0 a1 a2 w0 w1
  refine (damperlaw2_SpecHundred.calls k A0 c0 l0 a1 a2 true w ⟨hLd_⟩ hr0 hc0 ⟨rfl⟩ h).mono ?_
  rintro e w' ⟨rfl, hd⟩
  exact ⟨rfl, hd⟩

end Go.Proofs.YthdpnbfjpbiieaaDoor.Ma
