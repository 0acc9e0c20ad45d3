-- Written by a program of this session (wip/tools/myprint.py), in the form of the kit's print. Not trusted: Lean checks it.
import Derived.Test.YtgnnbnbmjifgfaaDoorMax0
import Derived.Test.YtgnnbnbmjifgfaaDoorMax4
import Derived.Test.YtgnnbnbmjifgfaaDoorMax20
import Derived.Test.YtgnnbnbmjifgfaaDoorMax38
import Derived.Test.YtgnnbnbmjifgfaaDoorMax39
import Derived.Test.YtgnnbnbmjifgfaaDoorMax40
import Derived.Test.YtgnnbnbmjifgfaaDoorMax41
namespace Go.Proofs.YtgnnbnbmjifgfaaDoor.Ma
open Go.RowKit Go.Proofs.YtgnnbnbmjifgfaaDoorW.PrintWords Go.Proofs.YtgnnbnbmjifgfaaDoorW.PrintLast Go.Proofs.YtgnnbnbmjifgfaaDoorW.PrintMore
attribute [local go_sem] max2_int min2_int max_two min_two max_three min_three max_four min_four   -- for this text's walks alone
set_option linter.unusedVariables false
set_option linter.unusedSimpArgs false

/-! ### damperlaw1_LabelBack: function 5 -/
mutual
def damperlaw1_LabelBack.j0 : Nat → ByteArray → ByteArray → Int → ByteArray → ByteArray → Int → Bool → Option (Bool)
  | 0, _, _, _, _, _, _, _ => none
  | k + 1, x2, x7, x8, x9, x10, x11, x12 => (label_Name.f x7).bind fun t218 => (if (t218 != (x9.toList != ([] : List UInt8))) = true then (damperlaw1_LabelBack.j1 k x2 x7 true) else (if (x12 != (x9.toList != ([] : List UInt8))) = true then (damperlaw1_LabelBack.j1 k x2 x7 true) else (if x12 = true then (if x10.toList = x7.toList then (damperlaw1_LabelBack.j1 k x2 x7 (x11 != x8)) else (damperlaw1_LabelBack.j1 k x2 x7 true)) else (damperlaw1_LabelBack.j1 k x2 x7 false))))
def damperlaw1_LabelBack.j1 : Nat → ByteArray → ByteArray → Bool → Option (Bool)
  | 0, _, _, _ => none
  | k + 1, x2, x7, x60 => if x60 = true then (some false) else (if 2 + x2.size ≤ 9223372036854775807 then (if x7.size + 1 ≤ 9223372036854775807 then (if (x7 ++ (⟨#[45]⟩ : ByteArray)).size + x2.size ≤ 9223372036854775807 then (damperlaw1_LabelBack.l0 k (([x2, (⟨#[97, 45]⟩ : ByteArray) ++ x2, (x7 ++ (⟨#[45]⟩ : ByteArray)) ++ x2] : List ByteArray)) 0) else (none)) else (none)) else (none))
def damperlaw1_LabelBack.l0 : Nat → List ByteArray → Int → Option (Bool)
  | 0, _, _ => none
  | k + 1, x13, x14 => if x14 < (x13.length : Int) then (if 0 ≤ x14 then ((label_Split.f (rdOf ByteArray.empty x13 x14)).bind fun bt223 => (damperlaw1_LabelBack.j3 k x13 x14 bt223.1 bt223.2.1 bt223.2.2)) else (none)) else (some true)
def damperlaw1_LabelBack.j3 : Nat → List ByteArray → Int → ByteArray → Int → Bool → Option (Bool)
  | 0, _, _, _, _, _ => none
  | k + 1, x13, x14, x15, x16, x17 => if x17 = true then ((label_Rev.f k x15 x16).bind fun t226 => (if 0 ≤ x14 then (if x14 < (x13.length : Int) then (if t226.toList = (rdOf ByteArray.empty x13 x14).toList then (damperlaw1_LabelBack.l0 k x13 (wrap64 (x14 + 1))) else (some false)) else (none)) else (none))) else (damperlaw1_LabelBack.l0 k x13 (wrap64 (x14 + 1)))
end
def damperlaw1_LabelBack.f (k : Nat) (l0 : List Int) (a1 : Int) (a2 : ByteArray) : Option (Bool) := (damperlaw1_known.f k).bind fun t211 => (if t211 = true then (if (a2.size : Int) > 100 then (some true) else ((damperlaw1_Text.f k l0).bind fun t212 => ((damperlaw1_within.f a1 999999).bind fun t213 => ((label_Rev.f k t212 (wrap64 (1 + t213))).bind fun t214 => ((label_Split.f t214).bind fun bt215 => (damperlaw1_LabelBack.j0 k a2 t212 (wrap64 (1 + t213)) t214 bt215.1 bt215.2.1 bt215.2.2)))))) else (some false))
theorem damperlaw1_LabelBack.mono_l : ∀ k, (∀ y0 y1 y2 y3 y4 y5 y6, LeO (damperlaw1_LabelBack.j0 k y0 y1 y2 y3 y4 y5 y6) (damperlaw1_LabelBack.j0 (k + 1) y0 y1 y2 y3 y4 y5 y6)) ∧ (∀ y0 y1 y2, LeO (damperlaw1_LabelBack.j1 k y0 y1 y2) (damperlaw1_LabelBack.j1 (k + 1) y0 y1 y2)) ∧ (∀ y0 y1, LeO (damperlaw1_LabelBack.l0 k y0 y1) (damperlaw1_LabelBack.l0 (k + 1) y0 y1)) ∧ (∀ y0 y1 y2 y3 y4, LeO (damperlaw1_LabelBack.j3 k y0 y1 y2 y3 y4) (damperlaw1_LabelBack.j3 (k + 1) y0 y1 y2 y3 y4))
  | 0 => ⟨fun _ _ _ _ _ _ _ r h => by simp [damperlaw1_LabelBack.j0] at h, fun _ _ _ r h => by simp [damperlaw1_LabelBack.j1] at h, fun _ _ r h => by simp [damperlaw1_LabelBack.l0] at h, fun _ _ _ _ _ r h => by simp [damperlaw1_LabelBack.j3] at h⟩
  | k + 1 => by
    obtain ⟨ih0, ih1, ih2, ih3⟩ := damperlaw1_LabelBack.mono_l k
    refine ⟨?_, ?_, ?_, ?_⟩
    · intro y0 y1 y2 y3 y4 y5 y6
      unfold damperlaw1_LabelBack.j0
      repeat' first
      | (with_reducible exact ih0 _ _ _ _ _ _ _)
      | (with_reducible exact ih1 _ _ _)
      | (with_reducible exact ih2 _ _)
      | (with_reducible exact ih3 _ _ _ _ _)
      | (with_reducible exact damperlaw1_Text.mono _ _)
      | (with_reducible exact damperlaw1_known.mono _)
      | (with_reducible exact label_Rev.mono _ _ _)
      | (with_reducible exact LeO.refl _)
      | (with_reducible exact LeO.none _)
      | (with_reducible refine LeO.ite ?_ ?_)
      | (with_reducible refine LeO.bind ?_ (fun _ => ?_))
      | exact ih0 _ _ _ _ _ _ _
      | exact ih1 _ _ _
      | exact ih2 _ _
      | exact ih3 _ _ _ _ _
      | exact damperlaw1_Text.mono _ _
      | exact damperlaw1_known.mono _
      | exact label_Rev.mono _ _ _
      | exact LeO.none _
      | refine LeO.ite ?_ ?_
      | refine LeO.bind ?_ (fun _ => ?_)
    · intro y0 y1 y2
      unfold damperlaw1_LabelBack.j1
      repeat' first
      | (with_reducible exact ih0 _ _ _ _ _ _ _)
      | (with_reducible exact ih1 _ _ _)
      | (with_reducible exact ih2 _ _)
      | (with_reducible exact ih3 _ _ _ _ _)
      | (with_reducible exact damperlaw1_Text.mono _ _)
      | (with_reducible exact damperlaw1_known.mono _)
      | (with_reducible exact label_Rev.mono _ _ _)
      | (with_reducible exact LeO.refl _)
      | (with_reducible exact LeO.none _)
      | (with_reducible refine LeO.ite ?_ ?_)
      | (with_reducible refine LeO.bind ?_ (fun _ => ?_))
      | exact ih0 _ _ _ _ _ _ _
      | exact ih1 _ _ _
      | exact ih2 _ _
      | exact ih3 _ _ _ _ _
      | exact damperlaw1_Text.mono _ _
      | exact damperlaw1_known.mono _
      | exact label_Rev.mono _ _ _
      | exact LeO.none _
      | refine LeO.ite ?_ ?_
      | refine LeO.bind ?_ (fun _ => ?_)
    · intro y0 y1
      unfold damperlaw1_LabelBack.l0
      repeat' first
      | (with_reducible exact ih0 _ _ _ _ _ _ _)
      | (with_reducible exact ih1 _ _ _)
      | (with_reducible exact ih2 _ _)
      | (with_reducible exact ih3 _ _ _ _ _)
      | (with_reducible exact damperlaw1_Text.mono _ _)
      | (with_reducible exact damperlaw1_known.mono _)
      | (with_reducible exact label_Rev.mono _ _ _)
      | (with_reducible exact LeO.refl _)
      | (with_reducible exact LeO.none _)
      | (with_reducible refine LeO.ite ?_ ?_)
      | (with_reducible refine LeO.bind ?_ (fun _ => ?_))
      | exact ih0 _ _ _ _ _ _ _
      | exact ih1 _ _ _
      | exact ih2 _ _
      | exact ih3 _ _ _ _ _
      | exact damperlaw1_Text.mono _ _
      | exact damperlaw1_known.mono _
      | exact label_Rev.mono _ _ _
      | exact LeO.none _
      | refine LeO.ite ?_ ?_
      | refine LeO.bind ?_ (fun _ => ?_)
    · intro y0 y1 y2 y3 y4
      unfold damperlaw1_LabelBack.j3
      repeat' first
      | (with_reducible exact ih0 _ _ _ _ _ _ _)
      | (with_reducible exact ih1 _ _ _)
      | (with_reducible exact ih2 _ _)
      | (with_reducible exact ih3 _ _ _ _ _)
      | (with_reducible exact damperlaw1_Text.mono _ _)
      | (with_reducible exact damperlaw1_known.mono _)
      | (with_reducible exact label_Rev.mono _ _ _)
      | (with_reducible exact LeO.refl _)
      | (with_reducible exact LeO.none _)
      | (with_reducible refine LeO.ite ?_ ?_)
      | (with_reducible refine LeO.bind ?_ (fun _ => ?_))
      | exact ih0 _ _ _ _ _ _ _
      | exact ih1 _ _ _
      | exact ih2 _ _
      | exact ih3 _ _ _ _ _
      | exact damperlaw1_Text.mono _ _
      | exact damperlaw1_known.mono _
      | exact label_Rev.mono _ _ _
      | exact LeO.none _
      | refine LeO.ite ?_ ?_
      | refine LeO.bind ?_ (fun _ => ?_)
theorem damperlaw1_LabelBack.mono : ∀ a0 a1 a2 k, LeO (damperlaw1_LabelBack.f k a0 a1 a2) (damperlaw1_LabelBack.f (k + 1) a0 a1 a2) := by
  intro a0 a1 a2 k
  obtain ⟨ih0, ih1, ih2, ih3⟩ := damperlaw1_LabelBack.mono_l k
  unfold damperlaw1_LabelBack.f
  repeat' first
      | (with_reducible exact ih0 _ _ _ _ _ _ _)
      | (with_reducible exact ih1 _ _ _)
      | (with_reducible exact ih2 _ _)
      | (with_reducible exact ih3 _ _ _ _ _)
      | (with_reducible exact damperlaw1_Text.mono _ _)
      | (with_reducible exact damperlaw1_known.mono _)
      | (with_reducible exact label_Rev.mono _ _ _)
      | (with_reducible exact LeO.refl _)
      | (with_reducible exact LeO.none _)
      | (with_reducible refine LeO.ite ?_ ?_)
      | (with_reducible refine LeO.bind ?_ (fun _ => ?_))
      | exact ih0 _ _ _ _ _ _ _
      | exact ih1 _ _ _
      | exact ih2 _ _
      | exact ih3 _ _ _ _ _
      | exact damperlaw1_Text.mono _ _
      | exact damperlaw1_known.mono _
      | exact label_Rev.mono _ _ _
      | exact LeO.none _
      | refine LeO.ite ?_ ?_
      | refine LeO.bind ?_ (fun _ => ?_)
def damperlaw1_LabelBack.T16 : Bool × List (List Nat × List Nat) := (true, [([], []), ([0], [0]), ([1], [1]), ([1], [1]), ([2, 3, 1, 1], [1, 2, 3]), ([1], [1]), ([1], [1]), ([5, 6, 1], [1, 5, 6]), ([7, 1], [1, 7]), ([4, 8, 1], [1, 4, 8]), ([1, 9], [1, 9])])
def damperlaw1_LabelBack.B16 : List Nat := [0, 1, 3, 3, 15, 3, 3, 99, 227, 511, 1023]
theorem damperlaw1_LabelBack.tab16 : rtab .any (opsOf Tryd.f5 16) = damperlaw1_LabelBack.T16 := by kernel_rfl
theorem damperlaw1_LabelBack.bits16 : waitsOk damperlaw1_LabelBack.T16.2 damperlaw1_LabelBack.B16 = true := by kernel_rfl
set_option maxHeartbeats 8000000 in
set_option maxRecDepth 100000 in
theorem damperlaw1_LabelBack.calls (k : Nat) (A0 : Option Addr) (c0 : Nat) (l0 : List Int) (a1 : Int) (a2 : ByteArray) (r : Bool) (w : World) (hLd_ : Aside0 (LaidW w)) (hr0 : Kd.C (Kd.int .i64) w A0 l0.length l0) (hc0 : l0.length ≤ c0) (hr0_ : Aside0 (r = true)) (h : damperlaw1_LabelBack.f k l0 a1 a2 = some r) :
    Calls Tryd.prog 5 #[.slice A0 l0.length c0, .int .i64 a1, .string a2] w fun e w' => e = .returned (.bool r) ∧ Below w.heap.size w w' := by
  have HR0 := Aside0.mk hr0
  have HC0 := Aside0.mk hc0
  clear hr0 hc0
  have HB := Aside0.mk (Below.refl w.heap.size w)
  have H : ((damperlaw1_known.f k).bind fun t211 => (if t211 = true then (if (a2.size : Int) > 100 then (some true) else ((damperlaw1_Text.f k l0).bind fun t212 => ((damperlaw1_within.f a1 999999).bind fun t213 => ((label_Rev.f k t212 (wrap64 (1 + t213))).bind fun t214 => ((label_Split.f t214).bind fun bt215 => (damperlaw1_LabelBack.j0 k a2 t212 (wrap64 (1 + t213)) t214 bt215.1 bt215.2.1 bt215.2.2)))))) else (some false))) = some r := h
  clear h
  replace H := Option.bind_eq_some_iff.mp H
  obtain ⟨t211, A40, H⟩ := H
  replace H : (if t211 = true then (if (a2.size : Int) > 100 then (some true) else ((damperlaw1_Text.f k l0).bind fun t212 => ((damperlaw1_within.f a1 999999).bind fun t213 => ((label_Rev.f k t212 (wrap64 (1 + t213))).bind fun t214 => ((label_Split.f t214).bind fun bt215 => (damperlaw1_LabelBack.j0 k a2 t212 (wrap64 (1 + t213)) t214 bt215.1 bt215.2.1 bt215.2.2)))))) else (some false)) = some r := H
  have A4 := Aside0.mk A40
  clear A40
  by_cases c5 : t211 = true
  · subst c5
    have H1 : (if (a2.size : Int) > 100 then (some true) else ((damperlaw1_Text.f k l0).bind fun t212 => ((damperlaw1_within.f a1 999999).bind fun t213 => ((label_Rev.f k t212 (wrap64 (1 + t213))).bind fun t214 => ((label_Split.f t214).bind fun bt215 => (damperlaw1_LabelBack.j0 k a2 t212 (wrap64 (1 + t213)) t214 bt215.1 bt215.2.1 bt215.2.2)))))) = some r := by rw [if_pos rfl] at H; exact H
    clear H
    have H := H1
    clear H1
    by_cases c6 : (a2.size : Int) > 100
    · rw [if_pos c6] at H
      have c6b0 : decide (100 < (a2.size : Int)) = true := decide_eq_true c6
      have c6b1 : decide (100 < a2.size) = true := decide_eq_true (by omega)
      clear c6
      obtain rfl := Option.some.inj H
      go_enter Tryd.func5, Tryd.ntmps5
      go_wp2_with (first | ((with_reducible refine gate_callee (f := 10) rfl ?_); refine goesL_ (some 18) rfl rfl Tryd.func10 (by kernel_rfl) rfl #[] rfl (by (try simp only [List.map_toArray, List.map_cons, List.map_nil]); first | done | rfl | (simp only [List.length_drop, List.length_take]; rfl)) ?_; (with_reducible refine (damperlaw1_known.calls k  true _ ?side1 A4.out).mono ?_); (case side1 => first | exact hLd_.out | exact hLd_ | exact ⟨LaidW.below hLd_.out (by repeat (first | (with_reducible first | exact HB.out | apply below_alloc | apply pw_below_drewN | apply below_drew1) | exact HB.out))⟩ | exact ⟨LaidW.below hLd_.out (by repeat (first | exact Below.refl _ _ | apply below_alloc | apply pw_below_drewN | apply below_drew1))⟩); rintro e w7 ⟨rfl, hb⟩; refine ⟨_, rfl, ?_⟩; have n0_ := Aside0.mk (below_step (by repeat (first | (with_reducible first | exact HB.out | apply below_alloc | apply pw_below_drewN | apply below_drew1) | exact HB.out)) hb); clear HB; have HB := n0_; clear n0_; (try clear hb); (try clear hb2); (try clear hk); (try clear hi)))
      go_ret
      exact ⟨by first | rfl | (simp [errW_none, errW_some] <;> rfl) | (simp [*, errW_none, errW_some] <;> rfl), by repeat (first | (with_reducible first | exact HB.out | apply below_alloc | apply pw_below_drewN | apply below_drew1) | exact HB.out)⟩
    · rw [if_neg c6] at H
      have c6b0 : decide (100 < (a2.size : Int)) = false := decide_eq_false c6
      have c6b1 : decide (100 < a2.size) = false := decide_eq_false (by omega)
      clear c6
      replace H := Option.bind_eq_some_iff.mp H
      obtain ⟨t212, A80, H⟩ := H
      replace H : ((damperlaw1_within.f a1 999999).bind fun t213 => ((label_Rev.f k t212 (wrap64 (1 + t213))).bind fun t214 => ((label_Split.f t214).bind fun bt215 => (damperlaw1_LabelBack.j0 k a2 t212 (wrap64 (1 + t213)) t214 bt215.1 bt215.2.1 bt215.2.2)))) = some r := H
      have A8 := Aside0.mk A80
      clear A80
      replace H := Option.bind_eq_some_iff.mp H
      obtain ⟨t213, A90, H⟩ := H
      replace H : ((label_Rev.f k t212 (wrap64 (1 + t213))).bind fun t214 => ((label_Split.f t214).bind fun bt215 => (damperlaw1_LabelBack.j0 k a2 t212 (wrap64 (1 + t213)) t214 bt215.1 bt215.2.1 bt215.2.2))) = some r := H
      have A9 := Aside0.mk A90
      clear A90
      replace H := Option.bind_eq_some_iff.mp H
      obtain ⟨t214, A100, H⟩ := H
      replace H : ((label_Split.f t214).bind fun bt215 => (damperlaw1_LabelBack.j0 k a2 t212 (wrap64 (1 + t213)) t214 bt215.1 bt215.2.1 bt215.2.2)) = some r := H
      have A10 := Aside0.mk A100
      clear A100
      have HC11 := Aside0.mk H
      clear H
      go_enter Tryd.func5, Tryd.ntmps5
      go_upto_region 8 with (first | ((with_reducible refine gate_callee (f := 10) rfl ?_); refine goesL_ (some 18) rfl rfl Tryd.func10 (by kernel_rfl) rfl #[] rfl (by (try simp only [List.map_toArray, List.map_cons, List.map_nil]); first | done | rfl | (simp only [List.length_drop, List.length_take]; rfl)) ?_; (with_reducible refine (damperlaw1_known.calls k  true _ ?side1 A4.out).mono ?_); (case side1 => first | exact hLd_.out | exact hLd_ | exact ⟨LaidW.below hLd_.out (by repeat (first | (with_reducible first | exact HB.out | apply below_alloc | apply pw_below_drewN | apply below_drew1) | exact HB.out))⟩ | exact ⟨LaidW.below hLd_.out (by repeat (first | exact Below.refl _ _ | apply below_alloc | apply pw_below_drewN | apply below_drew1))⟩); rintro e w12 ⟨rfl, hb⟩; refine ⟨_, rfl, ?_⟩; have n0_ := Aside0.mk (below_step (by repeat (first | (with_reducible first | exact HB.out | apply below_alloc | apply pw_below_drewN | apply below_drew1) | exact HB.out)) hb); clear HB; have HB := n0_; clear n0_; (try clear hb); (try clear hb2); (try clear hk); (try clear hi)) | ((with_reducible refine gate_callee (f := 11) rfl ?_); refine goesL_ (some 24) rfl rfl Tryd.func11 (by kernel_rfl) rfl #[.slice A0 l0.length c0] rfl (by (try simp only [List.map_toArray, List.map_cons, List.map_nil]); first | done | rfl | (simp only [List.length_drop, List.length_take]; rfl)) ?_; (with_reducible refine (damperlaw1_Text.calls k _ _ l0 t212 _ ?side1 ?side2 A8.out).mono ?_); (case side1 => repeat (first | exact (Kd.C_below HR0.out HB.out) | (with_reducible refine Kd.C_alloc ?_ _) | (with_reducible refine Kd.C_drewN ?_ _) | (with_reducible refine Kd.C_drew ?_))); (case side2 => exact HC0.out); rintro e w13 ⟨rfl, hb⟩; refine ⟨_, rfl, ?_⟩; have n0_ := Aside0.mk (below_step (by repeat (first | (with_reducible first | exact HB.out | apply below_alloc | apply pw_below_drewN | apply below_drew1) | exact HB.out)) hb); clear HB; have HB := n0_; clear n0_; (try clear hb); (try clear hb2); (try clear hk); (try clear hi)) | ((with_reducible refine gate_callee (f := 12) rfl ?_); refine goesL_ (some 26) rfl rfl Tryd.func12 (by kernel_rfl) rfl #[.int .i64 a1, .int .i64 999999] rfl (by (try simp only [List.map_toArray, List.map_cons, List.map_nil]); first | done | rfl | (simp only [List.length_drop, List.length_take]; rfl)) ?_; (with_reducible refine (damperlaw1_within.calls a1 999999 t213 _ A9.out).mono ?_); rintro e w' ⟨rfl, ⟨nd, rfl⟩⟩; refine ⟨_, rfl, ?_⟩) | ((with_reducible refine gate_callee (f := 17) rfl ?_); refine goesL_ (some 30) rfl rfl Tryd.func17 (by kernel_rfl) rfl #[.string t212, .int .i64 (wrap64 (1 + t213))] rfl (by (try simp only [List.map_toArray, List.map_cons, List.map_nil]); first | done | rfl | (simp only [List.length_drop, List.length_take]; rfl)) ?_; (with_reducible refine (label_Rev.calls k t212 (wrap64 (1 + t213)) t214 _ ?side1 A10.out).mono ?_); (case side1 => first | exact hLd_.out | exact hLd_ | exact ⟨LaidW.below hLd_.out (by repeat (first | (with_reducible first | exact HB.out | apply below_alloc | apply pw_below_drewN | apply below_drew1) | exact HB.out))⟩ | exact ⟨LaidW.below hLd_.out (by repeat (first | exact Below.refl _ _ | apply below_alloc | apply pw_below_drewN | apply below_drew1))⟩); rintro e w14 ⟨rfl, hb⟩; refine ⟨_, rfl, ?_⟩; have n0_ := Aside0.mk (below_step (by repeat (first | (with_reducible first | exact HB.out | apply below_alloc | apply pw_below_drewN | apply below_drew1) | exact HB.out)) hb); clear HB; have HB := n0_; clear n0_; (try clear hb); (try clear hb2); (try clear hk); (try clear hi)))
      (try simp only [Act.put, List.setIfInBounds_toArray, List.set_cons_zero, List.set_cons_succ])
      go_cut [10, 11, 12] (fun v10 v11 v12 wc => ∃ (kq : Nat) (x10_10 : ByteArray) (x11_10 : Int) (x12_10 : Bool), v10 = .string x10_10 ∧ v11 = .int .i64 x11_10 ∧ v12 = .bool x12_10 ∧ Aside0 (damperlaw1_LabelBack.j0 kq a2 t212 (wrap64 (1 + t213)) t214 x10_10 x11_10 x12_10 = some r) ∧ Aside0 (kq ≤ k) ∧ Aside0 (Below w.heap.size w wc))
      case first =>
        have H := HC11.out
        clear HC11
        replace H := Option.bind_eq_some_iff.mp H
        obtain ⟨⟨t215, t216, t217⟩, A150, H⟩ := H
        replace H : (damperlaw1_LabelBack.j0 k a2 t212 (wrap64 (1 + t213)) t214 t215 t216 t217) = some r := H
        have A15 := Aside0.mk A150
        clear A150
        have H' := Aside0.mk H
        clear H
        go_wp2_with (first | ((with_reducible refine gate_callee (f := 20) rfl ?_); refine goesL_ (some 33) rfl rfl Tryd.func20 (by kernel_rfl) rfl #[.string t214] rfl (by (try simp only [List.map_toArray, List.map_cons, List.map_nil]); first | done | rfl | (simp only [List.length_drop, List.length_take]; rfl)) ?_; (with_reducible refine (label_Split.calls t214 t215 t216 t217 _ ?side1 A15.out).mono ?_); (case side1 => first | exact hLd_.out | exact hLd_ | exact ⟨LaidW.below hLd_.out (by repeat (first | (with_reducible first | exact HB.out | apply below_alloc | apply pw_below_drewN | apply below_drew1) | exact HB.out))⟩ | exact ⟨LaidW.below hLd_.out (by repeat (first | exact Below.refl _ _ | apply below_alloc | apply pw_below_drewN | apply below_drew1))⟩); rintro e w16 ⟨rfl, hb⟩; refine ⟨_, rfl, ?_⟩; have n0_ := Aside0.mk (below_step (by repeat (first | (with_reducible first | exact HB.out | apply below_alloc | apply pw_below_drewN | apply below_drew1) | exact HB.out)) hb); clear HB; have HB := n0_; clear n0_; (try clear hb); (try clear hb2); (try clear hk); (try clear hi)))
        go_meet
        case rel => exact ⟨_, (t215), (t216), (t217), (by first | rfl | (simp; done) | (simp [*]; done)), (by first | rfl | (simp; done) | (simp [*]; done)), (by first | rfl | (simp; done) | (simp [*]; done)), H', ⟨by first | omega | exact Nat.le_refl _⟩, ⟨by repeat (first | (with_reducible first | exact HB.out | apply below_alloc | apply pw_below_drewN | apply below_drew1) | exact HB.out)⟩⟩
      case rest =>
        clear HC11
        try clear c1
        try clear c2
        try clear p2
        try clear c5
        try clear c6
        try clear c6b0
        try clear c6b1
        try clear p6
        try clear c10
        try clear c11
        try clear c12
        obtain ⟨kq, x10_10, x11_10, x12_10, rfl, rfl, rfl, HA, HJ10, HB⟩ := hcut
        cases kq with
        | zero => exact absurd HA.out (by simp [damperlaw1_LabelBack.j0])
        | succ kj10 =>
          have H := HA.out
          clear HA
          simp only [damperlaw1_LabelBack.j0] at H
          have HC17 := Aside0.mk H
          clear H
          go_upto_region 9 with (fail)
          go_cut [60] (fun v60 wc => ∃ (kq : Nat) (x60_16 : Bool), v60 = .bool x60_16 ∧ Aside0 (damperlaw1_LabelBack.j1 kq a2 t212 x60_16 = some r) ∧ Aside0 (kq ≤ kj10) ∧ Aside0 (Below w.heap.size w wc))
          case first =>
            have H := HC17.out
            clear HC17
            replace H := Option.bind_eq_some_iff.mp H
            obtain ⟨t218, A180, H⟩ := H
            replace H : (if (t218 != (t214.toList != ([] : List UInt8))) = true then (damperlaw1_LabelBack.j1 kj10 a2 t212 true) else (if (x12_10 != (t214.toList != ([] : List UInt8))) = true then (damperlaw1_LabelBack.j1 kj10 a2 t212 true) else (if x12_10 = true then (if x10_10.toList = t212.toList then (damperlaw1_LabelBack.j1 kj10 a2 t212 (x11_10 != (wrap64 (1 + t213)))) else (damperlaw1_LabelBack.j1 kj10 a2 t212 true)) else (damperlaw1_LabelBack.j1 kj10 a2 t212 false)))) = some r := H
            have A18 := Aside0.mk A180
            clear A180
            by_cases c19 : (t218 != (t214.toList != ([] : List UInt8))) = true
            · rw [if_pos c19] at H
              have c19b0 : (t218 != (t214.toList != ([] : List UInt8))) = true := c19
              (try (have c19b1 : decide (t218 = (t214.toList != ([] : List UInt8))) = false := by simpa using c19))
              (try (have c19b2 : (t218 == (t214.toList != ([] : List UInt8))) = false := by simpa using c19))
              (try (have c19b3 : ¬ (t218 = (t214.toList != ([] : List UInt8))) := by simpa using c19))
              (try (have c19b9 : (t218 = !t214.toList.isEmpty) = False := ib_t c19b0))
              clear c19
              (first | rw [c19b0] | (simp only [i64_w, i32_w]; rw [c19b0]) | skip)
              have H' := Aside0.mk H
              clear H
              go_wp2_with (first | ((with_reducible refine gate_callee (f := 13) rfl ?_); refine goesL_ (some 38) rfl rfl Tryd.func13 (by kernel_rfl) rfl #[.string t212] rfl (by (try simp only [List.map_toArray, List.map_cons, List.map_nil]); first | done | rfl | (simp only [List.length_drop, List.length_take]; rfl)) ?_; (with_reducible refine (label_Name.calls t212 t218 _ A18.out).mono ?_); rintro e w20 ⟨rfl, hb⟩; refine ⟨_, rfl, ?_⟩; have n0_ := Aside0.mk (below_step (by repeat (first | (with_reducible first | exact HB.out | apply below_alloc | apply pw_below_drewN | apply below_drew1) | exact HB.out)) hb); clear HB; have HB := n0_; clear n0_; (try clear hb); (try clear hb2); (try clear hk); (try clear hi)))
              go_meet
              case rel => exact ⟨_, (true), (by first | rfl | (simp; done) | (simp [*]; done)), H', ⟨by have := HJ10.out; first | omega | exact Nat.le_refl _⟩, ⟨by repeat (first | (with_reducible first | exact HB.out | apply below_alloc | apply pw_below_drewN | apply below_drew1) | exact HB.out)⟩⟩
            · rw [if_neg c19] at H
              have c19b0 : (t218 != (t214.toList != ([] : List UInt8))) = false := by simpa using c19
              (try (have c19b1 : decide (t218 = (t214.toList != ([] : List UInt8))) = true := by simpa using c19))
              (try (have c19b2 : (t218 == (t214.toList != ([] : List UInt8))) = true := by simpa using c19))
              (try (have c19b9 : (t218 = !t214.toList.isEmpty) = True := ib_f c19b0))
              clear c19
              (first | rw [c19b0] | (simp only [i64_w, i32_w]; rw [c19b0]) | skip)
              by_cases c21 : (x12_10 != (t214.toList != ([] : List UInt8))) = true
              · rw [if_pos c21] at H
                have c21b0 : (x12_10 != (t214.toList != ([] : List UInt8))) = true := c21
                (try (have c21b1 : decide (x12_10 = (t214.toList != ([] : List UInt8))) = false := by simpa using c21))
                (try (have c21b2 : (x12_10 == (t214.toList != ([] : List UInt8))) = false := by simpa using c21))
                (try (have c21b3 : ¬ (x12_10 = (t214.toList != ([] : List UInt8))) := by simpa using c21))
                (try (have c21b9 : (x12_10 = !t214.toList.isEmpty) = False := ib_t c21b0))
                clear c21
                have H' := Aside0.mk H
                clear H
                go_wp2_with (first | ((with_reducible refine gate_callee (f := 13) rfl ?_); refine goesL_ (some 38) rfl rfl Tryd.func13 (by kernel_rfl) rfl #[.string t212] rfl (by (try simp only [List.map_toArray, List.map_cons, List.map_nil]); first | done | rfl | (simp only [List.length_drop, List.length_take]; rfl)) ?_; (with_reducible refine (label_Name.calls t212 t218 _ A18.out).mono ?_); rintro e w22 ⟨rfl, hb⟩; refine ⟨_, rfl, ?_⟩; have n0_ := Aside0.mk (below_step (by repeat (first | (with_reducible first | exact HB.out | apply below_alloc | apply pw_below_drewN | apply below_drew1) | exact HB.out)) hb); clear HB; have HB := n0_; clear n0_; (try clear hb); (try clear hb2); (try clear hk); (try clear hi)))
                go_meet
                case rel => exact ⟨_, (true), (by first | rfl | (simp; done) | (simp [*]; done)), H', ⟨by have := HJ10.out; first | omega | exact Nat.le_refl _⟩, ⟨by repeat (first | (with_reducible first | exact HB.out | apply below_alloc | apply pw_below_drewN | apply below_drew1) | exact HB.out)⟩⟩
              · rw [if_neg c21] at H
                have c21b0 : (x12_10 != (t214.toList != ([] : List UInt8))) = false := by simpa using c21
                (try (have c21b1 : decide (x12_10 = (t214.toList != ([] : List UInt8))) = true := by simpa using c21))
                (try (have c21b2 : (x12_10 == (t214.toList != ([] : List UInt8))) = true := by simpa using c21))
                (try (have c21b9 : (x12_10 = !t214.toList.isEmpty) = True := ib_f c21b0))
                clear c21
                by_cases c23 : x12_10 = true
                · subst c23
                  (try (have c21b5 := c21b9; simp at c21b5))
                  (try (have c19b5 := c19b9; rw [c21b5] at c19b5; simp at c19b5))
                  have H1 : (if x10_10.toList = t212.toList then (damperlaw1_LabelBack.j1 kj10 a2 t212 (x11_10 != (wrap64 (1 + t213)))) else (damperlaw1_LabelBack.j1 kj10 a2 t212 true)) = some r := by rw [if_pos rfl] at H; exact H
                  clear H
                  have H := H1
                  clear H1
                  by_cases c24 : x10_10.toList = t212.toList
                  · rw [if_pos c24] at H
                    have c24b0 : (x10_10.toList == t212.toList) = true := beq_iff_eq.mpr c24
                    have c24b1 : (x10_10.toList != t212.toList) = false := bne_eq_false_iff_eq.mpr c24
                    clear c24
                    have H' := Aside0.mk H
                    clear H
                    go_wp2_with (first | ((with_reducible refine gate_callee (f := 13) rfl ?_); refine goesL_ (some 38) rfl rfl Tryd.func13 (by kernel_rfl) rfl #[.string t212] rfl (by (try simp only [List.map_toArray, List.map_cons, List.map_nil]); first | done | rfl | (simp only [List.length_drop, List.length_take]; rfl)) ?_; (with_reducible refine (label_Name.calls t212 t218 _ A18.out).mono ?_); rintro e w25 ⟨rfl, hb⟩; refine ⟨_, rfl, ?_⟩; have n0_ := Aside0.mk (below_step (by repeat (first | (with_reducible first | exact HB.out | apply below_alloc | apply pw_below_drewN | apply below_drew1) | exact HB.out)) hb); clear HB; have HB := n0_; clear n0_; (try clear hb); (try clear hb2); (try clear hk); (try clear hi)))
                    go_meet
                    case rel => exact ⟨_, ((x11_10 != (wrap64 (1 + t213)))), (by first | rfl | (simp; done) | (simp [*]; done)), H', ⟨by have := HJ10.out; first | omega | exact Nat.le_refl _⟩, ⟨by repeat (first | (with_reducible first | exact HB.out | apply below_alloc | apply pw_below_drewN | apply below_drew1) | exact HB.out)⟩⟩
                  · rw [if_neg c24] at H
                    have c24b0 : (x10_10.toList == t212.toList) = false := beq_eq_false_iff_ne.mpr c24
                    have c24b1 : (x10_10.toList != t212.toList) = true := bne_iff_ne.mpr c24
                    have H' := Aside0.mk H
                    clear H
                    go_wp2_with (first | ((with_reducible refine gate_callee (f := 13) rfl ?_); refine goesL_ (some 38) rfl rfl Tryd.func13 (by kernel_rfl) rfl #[.string t212] rfl (by (try simp only [List.map_toArray, List.map_cons, List.map_nil]); first | done | rfl | (simp only [List.length_drop, List.length_take]; rfl)) ?_; (with_reducible refine (label_Name.calls t212 t218 _ A18.out).mono ?_); rintro e w26 ⟨rfl, hb⟩; refine ⟨_, rfl, ?_⟩; have n0_ := Aside0.mk (below_step (by repeat (first | (with_reducible first | exact HB.out | apply below_alloc | apply pw_below_drewN | apply below_drew1) | exact HB.out)) hb); clear HB; have HB := n0_; clear n0_; (try clear hb); (try clear hb2); (try clear hk); (try clear hi)))
                    go_meet
                    case rel => exact ⟨_, (true), (by first | rfl | (simp; done) | (simp [*]; done)), H', ⟨by have := HJ10.out; first | omega | exact Nat.le_refl _⟩, ⟨by repeat (first | (with_reducible first | exact HB.out | apply below_alloc | apply pw_below_drewN | apply below_drew1) | exact HB.out)⟩⟩
                · replace c23 := Bool.eq_false_iff.mpr c23
                  subst c23
                  (try (have c21b5 := c21b9; simp at c21b5))
                  (try (have c19b5 := c19b9; rw [c21b5] at c19b5; simp at c19b5))
                  have H1 : (damperlaw1_LabelBack.j1 kj10 a2 t212 false) = some r := by rw [if_neg (show ¬ (false = true) by decide)] at H; exact H
                  clear H
                  have H := H1
                  clear H1
                  have H' := Aside0.mk H
                  clear H
                  go_wp2_with (first | ((with_reducible refine gate_callee (f := 13) rfl ?_); refine goesL_ (some 38) rfl rfl Tryd.func13 (by kernel_rfl) rfl #[.string t212] rfl (by (try simp only [List.map_toArray, List.map_cons, List.map_nil]); first | done | rfl | (simp only [List.length_drop, List.length_take]; rfl)) ?_; (with_reducible refine (label_Name.calls t212 t218 _ A18.out).mono ?_); rintro e w27 ⟨rfl, hb⟩; refine ⟨_, rfl, ?_⟩; have n0_ := Aside0.mk (below_step (by repeat (first | (with_reducible first | exact HB.out | apply below_alloc | apply pw_below_drewN | apply below_drew1) | exact HB.out)) hb); clear HB; have HB := n0_; clear n0_; (try clear hb); (try clear hb2); (try clear hk); (try clear hi)))
                  go_meet
                  case rel => exact ⟨_, (false), (by first | rfl | (simp; done) | (simp [*]; done)), H', ⟨by have := HJ10.out; first | omega | exact Nat.le_refl _⟩, ⟨by repeat (first | (with_reducible first | exact HB.out | apply below_alloc | apply pw_below_drewN | apply below_drew1) | exact HB.out)⟩⟩
          case rest =>
            clear HC17
            try clear c1
            try clear c2
            try clear p2
            try clear c5
            try clear c6
            try clear c6b0
            try clear c6b1
            try clear p6
            try clear c10
            try clear c11
            try clear c12
            try clear c13
            try clear c17
            try clear c19
            try clear c19b0
            try clear c19b1
            try clear c19b2
            try clear c20
            try clear c21
            try clear c21b0
            try clear c21b1
            try clear c21b2
            try clear c23
            try clear c24
            try clear c24b0
            try clear c24b1
            try clear p2
            try clear p6
            obtain ⟨kq, x60_16, rfl, HA, HJ16, HB⟩ := hcut
            cases kq with
            | zero => exact absurd HA.out (by simp [damperlaw1_LabelBack.j1])
            | succ kj16 =>
              have H := HA.out
              clear HA
              simp only [damperlaw1_LabelBack.j1] at H
              by_cases c28 : x60_16 = true
              · subst c28
                have H1 : (some false) = some r := by rw [if_pos rfl] at H; exact H
                clear H
                have H := H1
                clear H1
                exact absurd (Option.some.inj H) (by rw [hr0_.out]; decide)
              · replace c28 := Bool.eq_false_iff.mpr c28
                subst c28
                have H1 : (if 2 + a2.size ≤ 9223372036854775807 then (if t212.size + 1 ≤ 9223372036854775807 then (if (t212 ++ (⟨#[45]⟩ : ByteArray)).size + a2.size ≤ 9223372036854775807 then (damperlaw1_LabelBack.l0 kj16 (([a2, (⟨#[97, 45]⟩ : ByteArray) ++ a2, (t212 ++ (⟨#[45]⟩ : ByteArray)) ++ a2] : List ByteArray)) 0) else (none)) else (none)) else (none)) = some r := by rw [if_neg (show ¬ (false = true) by decide)] at H; exact H
                clear H
                have H := H1
                clear H1
                by_cases c29 : 2 + a2.size ≤ 9223372036854775807
                rotate_left
                · rw [if_neg c29] at H
                  exact absurd H (by simp)
                rw [if_pos c29] at H
                have c29b0 := eq_true c29
                have c29b1 : decide (2 + a2.size ≤ 9223372036854775807) = true := decide_eq_true c29
                try have c29b2 : (9223372036854775807 < 2 + a2.size) = False := eq_false (Nat.not_lt.2 c29)
                try (have c29b4 := c29; simp at c29b4; have c29b5 := eq_false (Nat.not_lt.2 c29b4))
                by_cases c30 : t212.size + 1 ≤ 9223372036854775807
                rotate_left
                · rw [if_neg c30] at H
                  exact absurd H (by simp)
                rw [if_pos c30] at H
                have c30b0 := eq_true c30
                have c30b1 : decide (t212.size + 1 ≤ 9223372036854775807) = true := decide_eq_true c30
                try have c30b2 : (9223372036854775807 < t212.size + 1) = False := eq_false (Nat.not_lt.2 c30)
                try (have c30b4 := c30; simp at c30b4; have c30b5 := eq_false (Nat.not_lt.2 c30b4))
                by_cases c31 : (t212 ++ (⟨#[45]⟩ : ByteArray)).size + a2.size ≤ 9223372036854775807
                rotate_left
                · rw [if_neg c31] at H
                  exact absurd H (by simp)
                rw [if_pos c31] at H
                have c31b0 := eq_true c31
                have c31b1 : decide ((t212 ++ (⟨#[45]⟩ : ByteArray)).size + a2.size ≤ 9223372036854775807) = true := decide_eq_true c31
                try have c31b3 : (9223372036854775807 < t212.size + 1 + a2.size) = False := eq_false (by have h_ := c31; simp only [ByteArray.size_append] at h_; exact Nat.not_lt.2 h_)
                try have c31b2 : (9223372036854775807 < (t212 ++ (⟨#[45]⟩ : ByteArray)).size + a2.size) = False := eq_false (Nat.not_lt.2 c31)
                try (have c31b4 := c31; simp at c31b4; have c31b5 := eq_false (Nat.not_lt.2 c31b4))
                obtain ⟨y219, hy219⟩ : ∃ y_ : List ByteArray, y_ = (([a2, (⟨#[97, 45]⟩ : ByteArray) ++ a2, (t212 ++ (⟨#[45]⟩ : ByteArray)) ++ a2] : List ByteArray)) := ⟨_, rfl⟩
                replace H : (damperlaw1_LabelBack.l0 kj16 y219 0) = some r := by first | (rw [hy219]; with_reducible exact H) | (have H2_ := (Option.bind_some _ _).symm.trans H; rw [hy219]; with_reducible exact H2_) | (have H2_ := (Option.bind_some _ _).symm.trans H; with_reducible exact H2_) | with_reducible exact H | (rw [hy219]; exact H) | exact H
                have Ny219 := Aside0.mk hy219
                clear hy219
                have H' := Aside0.mk H
                clear H
                go_wp2_with (first | ((with_reducible refine gate_dst (N := 68) rfl ?_); refine Kd.R_lit Kd.string _ 9 ?hg (N := 68) ?hd (xs := ([a2, (⟨#[97, 45]⟩ : ByteArray) ++ a2, (t212 ++ (⟨#[45]⟩ : ByteArray)) ++ a2] : List ByteArray)) (inner := [.string a2, .string ((⟨#[97, 45]⟩ : ByteArray) ++ a2), .string ((t212 ++ (⟨#[45]⟩ : ByteArray)) ++ a2)]) (ok := fun _ => True) (okp := fun _ => True) ?hr ?hp (fun _ hk => hk) trivial (Below.refl _ _) (Nat.le_refl _) (by simp) ?_; (case hd => rfl); (case hg => rfl); (case hr => first | (go_simp; done) | (go_simp; rfl)); (case hp => exact (Reps.one (show Kd.M Kd.string _ _ _ a2 [.string a2] from rfl) (Reps.one (show Kd.M Kd.string _ _ _ ((⟨#[97, 45]⟩ : ByteArray) ++ a2) [.string ((⟨#[97, 45]⟩ : ByteArray) ++ a2)] from rfl) (Reps.one (show Kd.M Kd.string _ _ _ ((t212 ++ (⟨#[45]⟩ : ByteArray)) ++ a2) [.string ((t212 ++ (⟨#[45]⟩ : ByteArray)) ++ a2)] from rfl) (Reps.none _ _))))); intro v220 w32 ho33 hb hg_ hnew_; clear hg_ hnew_; (first | rw [← Ny219.out] at ho33 | (simp only [Int.reduceToNat] at ho33; rw [← Ny219.out] at ho33)); have n0_ := Aside0.mk (Kd.R_lower ho33 (below_size (by repeat (first | (with_reducible first | exact HB.out | apply below_alloc | apply pw_below_drewN | apply below_drew1) | exact HB.out)))); have n1_ := Aside0.mk (below_step (by repeat (first | (with_reducible first | exact HB.out | apply below_alloc | apply pw_below_drewN | apply below_drew1) | exact HB.out)) hb); clear HB; have HO221 := n0_; have HB := n1_; clear n0_ n1_; clear hb ho33))
                go_loopg [14] kj16 (fun kq v14 w' => ∃ (x14_3 : Int), v14 = .int .i64 x14_3 ∧ Aside0 (damperlaw1_LabelBack.l0 kq y219 x14_3 = some r) ∧ Aside0 (kq ≤ kj16) ∧ Aside0 (Kd.R Kd.string 9 w' w.heap.size (fun _ => True) v220 y219) ∧ Aside0 (Below w.heap.size w w'))
                case atStart => exact ⟨(0), (by first | rfl | (simp; done) | (simp [*]; done)), H', ⟨Nat.le_refl _⟩, ⟨by (with_reducible repeat (first | apply Kd.R_alloc | apply Kd.R_drewN | apply Kd.R_drew)); exact HO221.out⟩, ⟨by repeat (first | (with_reducible first | exact HB.out | apply below_alloc | apply pw_below_drewN | apply below_drew1) | exact HB.out)⟩⟩
                case round =>
                  clear H'
                  try clear c1
                  try clear c2
                  try clear p2
                  try clear c3
                  try clear c5
                  try clear c6
                  try clear c6b0
                  try clear c6b1
                  try clear p6
                  try clear c10
                  try clear c11
                  try clear c12
                  try clear c13
                  try clear c17
                  try clear c19
                  try clear c19b0
                  try clear c19b1
                  try clear c19b2
                  try clear c20
                  try clear c21
                  try clear c21b0
                  try clear c21b1
                  try clear c21b2
                  try clear c23
                  try clear c24
                  try clear c24b0
                  try clear c24b1
                  try clear c28
                  try clear c29
                  try clear c29b0
                  try clear c29b1
                  try clear c29b2
                  try clear c30
                  try clear c30b0
                  try clear c30b1
                  try clear c30b2
                  try clear c31
                  try clear c31b0
                  try clear c31b1
                  try clear c31b2
                  try clear p2
                  try clear p6
                  obtain ⟨x14_3, rfl, HA, HK3, HO_13, HB⟩ := hrel
                  cases gk with
                  | zero => exact absurd HA.out (by simp [damperlaw1_LabelBack.l0])
                  | succ k3 =>
                    have H := HA.out
                    clear HA
                    simp only [damperlaw1_LabelBack.l0] at H
                    by_cases c34 : x14_3 < (y219.length : Int)
                    · rw [if_pos c34] at H
                      have c34b0 : decide (x14_3 < (y219.length : Int)) = true := decide_eq_true c34
                      clear c34
                      have HC35 := Aside0.mk H
                      clear H
                      obtain ⟨Ao36, co36, eo36⟩ := Kd.R_slice HO_13.out
                      subst eo36
                      go_upto_region 15 with (fail)
                      go_cut [15, 16, 17] (fun v15 v16 v17 wc => ∃ (kq : Nat) (x15_34 : ByteArray) (x16_34 : Int) (x17_34 : Bool), v15 = .string x15_34 ∧ v16 = .int .i64 x16_34 ∧ v17 = .bool x17_34 ∧ Aside0 (damperlaw1_LabelBack.j3 kq y219 x14_3 x15_34 x16_34 x17_34 = some r) ∧ Aside0 (kq ≤ k3) ∧ Aside0 (Kd.R Kd.string 9 wc w.heap.size (fun _ => True) (.slice Ao36 y219.length co36) y219) ∧ Aside0 (Below w.heap.size w wc))
                      case first =>
                        have H := HC35.out
                        clear HC35
                        by_cases c37 : 0 ≤ x14_3
                        rotate_left
                        · rw [if_neg c37] at H
                          exact absurd H (by simp)
                        rw [if_pos c37] at H
                        have c37b0 : decide (0 ≤ x14_3) = true := decide_eq_true c37
                        clear c37
                        (first | rw [c37b0] | (simp only [i64_w, i32_w]; rw [c37b0]) | skip)
                        replace H := Option.bind_eq_some_iff.mp H
                        obtain ⟨⟨t223, t224, t225⟩, A380, H⟩ := H
                        replace H : (damperlaw1_LabelBack.j3 k3 y219 x14_3 t223 t224 t225) = some r := H
                        have A38 := Aside0.mk A380
                        clear A380
                        have H' := Aside0.mk H
                        clear H
                        have p222 : 0 ≤ (x14_3 : Int) := of_decide_eq_true (by first | (with_reducible assumption) | assumption)
                        have q222 : x14_3 < (y219.length : Int) := of_decide_eq_true (by first | (with_reducible assumption) | assumption)
                        obtain ⟨ad222, e222, hx222_0⟩ := Kd.at_string (Kd.R_reads' HO_13.out).2.2 x14_3 p222 q222
                        cases e222
                        replace p222 := eq_true p222
                        replace q222 := eq_true q222
                        go_wp2_with (first | ((with_reducible refine gate_callee (f := 20) rfl ?_); refine goesL_ (some 80) rfl rfl Tryd.func20 (by kernel_rfl) rfl #[.string (rdOf ByteArray.empty y219 x14_3)] rfl (by (try simp only [List.map_toArray, List.map_cons, List.map_nil]); first | done | rfl | (simp only [List.length_drop, List.length_take]; rfl)) ?_; (with_reducible refine (label_Split.calls (rdOf ByteArray.empty y219 x14_3) t223 t224 t225 _ ?side1 A38.out).mono ?_); (case side1 => first | exact hLd_.out | exact hLd_ | exact ⟨LaidW.below hLd_.out (by repeat (first | (with_reducible first | exact HB.out | apply below_alloc | apply pw_below_drewN | apply below_drew1) | exact HB.out))⟩ | exact ⟨LaidW.below hLd_.out (by repeat (first | exact Below.refl _ _ | apply below_alloc | apply pw_below_drewN | apply below_drew1))⟩); rintro e w39 ⟨rfl, hb⟩; refine ⟨_, rfl, ?_⟩; have n0_ := Aside0.mk (Kd.R_below (by (with_reducible repeat (first | apply Kd.R_alloc | apply Kd.R_drewN | apply Kd.R_drew)); exact HO_13.out) hb); have n1_ := Aside0.mk (below_step (by repeat (first | (with_reducible first | exact HB.out | apply below_alloc | apply pw_below_drewN | apply below_drew1) | exact HB.out)) hb); clear HO_13; clear HB; have HO_13 := n0_; have HB := n1_; clear n0_ n1_; (try clear hb); (try clear hb2); (try clear hk); (try clear hi)))
                        go_meet
                        case rel => exact ⟨_, (t223), (t224), (t225), (by first | rfl | (simp; done) | (simp [*]; done)), (by first | rfl | (simp; done) | (simp [*]; done)), (by first | rfl | (simp; done) | (simp [*]; done)), H', ⟨by have := HJ10.out; have := HJ16.out; have := HK3.out; first | omega | exact Nat.le_refl _⟩, ⟨by (with_reducible repeat (first | apply Kd.R_alloc | apply Kd.R_drewN | apply Kd.R_drew)); exact HO_13.out⟩, ⟨by repeat (first | (with_reducible first | exact HB.out | apply below_alloc | apply pw_below_drewN | apply below_drew1) | exact HB.out)⟩⟩
                      case rest =>
                        clear HC35
                        try clear c1
                        try clear c2
                        try clear p2
                        try clear q2
                        try clear hx2
                        try clear c3
                        try clear c5
                        try clear c6
                        try clear c6b0
                        try clear c6b1
                        try clear p6
                        try clear c10
                        try clear c11
                        try clear c12
                        try clear c13
                        try clear c17
                        try clear c19
                        try clear c19b0
                        try clear c19b1
                        try clear c19b2
                        try clear c20
                        try clear c21
                        try clear c21b0
                        try clear c21b1
                        try clear c21b2
                        try clear p22
                        try clear q22
                        try clear hx22
                        try clear c23
                        try clear c24
                        try clear c24b0
                        try clear c24b1
                        try clear c28
                        try clear c29
                        try clear c29b0
                        try clear c29b1
                        try clear c29b2
                        try clear c30
                        try clear c30b0
                        try clear c30b1
                        try clear c30b2
                        try clear c31
                        try clear c31b0
                        try clear c31b1
                        try clear c31b2
                        try clear c34
                        try clear c34b0
                        try clear c37
                        try clear c37b0
                        try clear hx222_0
                        try clear p2
                        try clear p222
                        try clear p6
                        try clear q222
                        obtain ⟨kq, x15_34, x16_34, x17_34, rfl, rfl, rfl, HA, HJ34, HO_13, HB⟩ := hcut
                        cases kq with
                        | zero => exact absurd HA.out (by simp [damperlaw1_LabelBack.j3])
                        | succ kj34 =>
                          have H := HA.out
                          clear HA
                          simp only [damperlaw1_LabelBack.j3] at H
                          by_cases c40 : x17_34 = true
                          · subst c40
                            have H1 : ((label_Rev.f kj34 x15_34 x16_34).bind fun t226 => (if 0 ≤ x14_3 then (if x14_3 < (y219.length : Int) then (if t226.toList = (rdOf ByteArray.empty y219 x14_3).toList then (damperlaw1_LabelBack.l0 kj34 y219 (wrap64 (x14_3 + 1))) else (some false)) else (none)) else (none))) = some r := by rw [if_pos rfl] at H; exact H
                            clear H
                            have H := H1
                            clear H1
                            replace H := Option.bind_eq_some_iff.mp H
                            obtain ⟨t226, A410, H⟩ := H
                            replace H : (if 0 ≤ x14_3 then (if x14_3 < (y219.length : Int) then (if t226.toList = (rdOf ByteArray.empty y219 x14_3).toList then (damperlaw1_LabelBack.l0 kj34 y219 (wrap64 (x14_3 + 1))) else (some false)) else (none)) else (none)) = some r := H
                            have A41 := Aside0.mk A410
                            clear A410
                            by_cases c42 : 0 ≤ x14_3
                            rotate_left
                            · rw [if_neg c42] at H
                              exact absurd H (by simp)
                            rw [if_pos c42] at H
                            have c42b0 : decide (0 ≤ x14_3) = true := decide_eq_true c42
                            clear c42
                            by_cases c43 : x14_3 < (y219.length : Int)
                            rotate_left
                            · rw [if_neg c43] at H
                              exact absurd H (by simp)
                            rw [if_pos c43] at H
                            have c43b0 : decide (x14_3 < (y219.length : Int)) = true := decide_eq_true c43
                            clear c43
                            by_cases c44 : t226.toList = (rdOf ByteArray.empty y219 x14_3).toList
                            rotate_left
                            · rw [if_neg c44] at H
                              have c44b0 : (t226.toList == (rdOf ByteArray.empty y219 x14_3).toList) = false := beq_eq_false_iff_ne.mpr c44
                              have c44b1 : (t226.toList != (rdOf ByteArray.empty y219 x14_3).toList) = true := bne_iff_ne.mpr c44
                              exact absurd (Option.some.inj H) (by rw [hr0_.out]; decide)
                            rw [if_pos c44] at H
                            have c44b0 : (t226.toList == (rdOf ByteArray.empty y219 x14_3).toList) = true := beq_iff_eq.mpr c44
                            have c44b1 : (t226.toList != (rdOf ByteArray.empty y219 x14_3).toList) = false := bne_eq_false_iff_eq.mpr c44
                            clear c44
                            have H' := Aside0.mk H
                            clear H
                            try go_wp2
                            replace HO_13 := Aside0.mk (Kd.R_drew HO_13.out)
                            replace HB := Aside0.mk (below_drew1 HB.out)
                            have p227 : 0 ≤ (x14_3 : Int) := of_decide_eq_true (by first | (with_reducible assumption) | assumption)
                            have q227 : x14_3 < (y219.length : Int) := of_decide_eq_true (by first | (with_reducible assumption) | assumption)
                            obtain ⟨ad227, e227, hx227_0⟩ := Kd.at_string (Kd.R_reads' HO_13.out).2.2 x14_3 p227 q227
                            cases e227
                            replace p227 := eq_true p227
                            replace q227 := eq_true q227
                            refine start_ (n := 11) (S := fun w' => w'.cell? (ad227.add (x14_3).toNat) = some (.string (rdOf ByteArray.empty y219 x14_3))) (ds := []) #[false, false, false, false, false, false, false, false, false, false, false] (by kernel_rfl) rfl rfl (hx227_0) (fun hHeld => ?_); refine with_tabW damperlaw1_LabelBack.tab16 damperlaw1_LabelBack.bits16 (fun HT_ HW_ => ?_)
                            generalize wc.drew = w45 at HO_13 HB hx227_0 hHeld ⊢
                            refine pure_ (i := 0) (N := some 84) (v := ?_) (a' := ?_) #[true, false, false, false, false, false, false, false, false, false, false] rfl rfl (any_of HT_.out (by kernel_rfl)) (fun _ _ _ h => h) (Or.inl ⟨by rfl, ?_⟩) ?_ ?_
                            rotate_left
                            · intro w'
                              go_simp
                              with_reducible rfl
                            rotate_left
                            · simp only [Act.put, List.setIfInBounds_toArray, List.set_cons_zero, List.set_cons_succ, i64_w, i32_w]
                              rfl
                            refine pure_ (i := 1) (N := some 85) (v := ?_) (a' := ?_) #[true, true, false, false, false, false, false, false, false, false, false] rfl rfl (any_of HT_.out (by kernel_rfl)) (fun _ _ _ h => h) (Or.inl ⟨by rfl, ?_⟩) ?_ ?_
                            rotate_left
                            · intro w'
                              go_simp
                              with_reducible rfl
                            rotate_left
                            · simp only [Act.put, List.setIfInBounds_toArray, List.set_cons_zero, List.set_cons_succ, i64_w, i32_w]
                              rfl
                            refine pure_ (i := 2) (N := some 86) (v := ?_) (a' := ?_) #[true, true, true, false, false, false, false, false, false, false, false] rfl rfl (any_of HT_.out (by kernel_rfl)) (fun _ _ _ h => h) (Or.inl ⟨by rfl, ?_⟩) ?_ ?_
                            rotate_left
                            · intro w'
                              go_simp
                              with_reducible rfl
                            rotate_left
                            · simp only [Act.put, List.setIfInBounds_toArray, List.set_cons_zero, List.set_cons_succ, i64_w, i32_w]
                              rfl
                            refine pure_ (i := 3) (N := some 87) (v := ?_) (a' := ?_) #[true, true, true, true, false, false, false, false, false, false, false] rfl rfl (any_of HT_.out (by kernel_rfl)) (fun _ _ _ h => h) (Or.inl ⟨by rfl, ?_⟩) ?_ ?_
                            rotate_left
                            · intro w'
                              go_simp
                              with_reducible rfl
                            rotate_left
                            · simp only [Act.put, List.setIfInBounds_toArray, List.set_cons_zero, List.set_cons_succ, i64_w, i32_w]
                              rfl
                            refine pure_ (i := 5) (N := some 89) (v := ?_) (a' := ?_) #[true, true, true, true, false, true, false, false, false, false, false] rfl rfl (any_of HT_.out (by kernel_rfl)) (fun _ _ _ h => h) (Or.inl ⟨by rfl, ?_⟩) ?_ ?_
                            rotate_left
                            · intro w'
                              go_simp
                              with_reducible rfl
                            rotate_left
                            · simp only [Act.put, List.setIfInBounds_toArray, List.set_cons_zero, List.set_cons_succ, i64_w, i32_w]
                              rfl
                            refine pure_ (i := 6) (N := some 90) (v := ?_) (a' := ?_) #[true, true, true, true, false, true, true, false, false, false, false] rfl rfl (any_of HT_.out (by kernel_rfl)) (fun _ _ _ h => h) (Or.inl ⟨by rfl, ?_⟩) ?_ ?_
                            rotate_left
                            · intro w'
                              go_simp
                              with_reducible rfl
                            rotate_left
                            · simp only [Act.put, List.setIfInBounds_toArray, List.set_cons_zero, List.set_cons_succ, i64_w, i32_w]
                              rfl
                            refine pure_ (i := 7) (N := some 91) (v := ?_) (a' := ?_) #[true, true, true, true, false, true, true, true, false, false, false] rfl rfl (any_of HT_.out (by kernel_rfl)) (fun _ _ _ h => h) (Or.inl ⟨by rfl, ?_⟩) ?_ ?_
                            rotate_left
                            · intro w'
                              go_simp
                              with_reducible rfl
                            rotate_left
                            · simp only [Act.put, List.setIfInBounds_toArray, List.set_cons_zero, List.set_cons_succ, i64_w, i32_w]
                              rfl
                            refine take_ (i := 8) (N := some 92) (v := ?_) (a' := ?_) #[true, true, true, true, false, true, true, true, true, false, false] rfl rfl (take_ofW HT_.out HW_.out (by kernel_rfl)) (fun _ _ _ h => h) (Or.inl ⟨by rfl, ?_⟩) hHeld ?_ ?_
                            rotate_left
                            · intro w' s0
                              go_simp
                              with_reducible rfl
                            rotate_left
                            · simp only [Act.put, List.setIfInBounds_toArray, List.set_cons_zero, List.set_cons_succ, i64_w, i32_w]
                              rfl
                            refine one_ (i := 4) (N := some 88) #[true, true, true, true, true, true, true, true, true, false, false] rfl rfl (one_of HT_.out (by kernel_rfl)) (by decide) (fun K hK => ?_)
                            refine goes_ Tryd.func17 (by kernel_rfl) rfl #[.string x15_34, .int .i64 x16_34] (by rfl) rfl rfl (by (try simp only [List.map_toArray, List.map_cons, List.map_nil]); first | done | rfl | (simp only [List.length_drop, List.length_take]; rfl)) ?_
                            with_reducible refine (label_Rev.calls kj34 x15_34 x16_34 t226 _ ?side1 A41.out).mono ?_
                            (case side1 => first | exact hLd_.out | exact hLd_ | exact ⟨LaidW.below hLd_.out (by repeat (first | (with_reducible first | exact HB.out | apply below_alloc | apply pw_below_drewN | apply below_drew1) | exact HB.out))⟩ | exact ⟨LaidW.below hLd_.out (by repeat (first | exact Below.refl _ _ | apply below_alloc | apply pw_below_drewN | apply below_drew1))⟩)
                            rintro e w46 ⟨rfl, hb⟩
                            have HS0_ := (hb.cell (World.block_lt_of_cell? _ _ (hHeld))).trans (hHeld)
                            refine ⟨_, rfl, ?_⟩
                            replace HO_13 := Aside0.mk (Kd.R_below (by (with_reducible repeat (first | apply Kd.R_alloc | apply Kd.R_drewN | apply Kd.R_drew)); exact HO_13.out) hb)
                            replace HB := Aside0.mk (below_step (by repeat (first | (with_reducible first | exact HB.out | apply below_alloc | apply pw_below_drewN | apply below_drew1) | exact HB.out)) hb)
                            (try clear hb)
                            (try clear hb2)
                            (try clear hk)
                            (try clear hi)
                            refine hK.out _ _ (HS0_) (fun hHeld => ?_)
                            clear hK K
                            refine norm_ (a' := ?_) ?_ ?_
                            rotate_left
                            · show Act.put _ (some 88) _ = _
                              simp only [Act.put, List.setIfInBounds_toArray, List.set_cons_zero, List.set_cons_succ, i64_w, i32_w]
                              rfl
                            refine pure_ (i := 9) (N := some 93) (v := ?_) (a' := ?_) #[true, true, true, true, true, true, true, true, true, true, false] rfl rfl (any_of HT_.out (by kernel_rfl)) (fun _ _ _ h => h) (Or.inl ⟨by rfl, ?_⟩) ?_ ?_
                            rotate_left
                            · intro w'
                              go_simp
                              with_reducible rfl
                            rotate_left
                            · simp only [Act.put, List.setIfInBounds_toArray, List.set_cons_zero, List.set_cons_succ, i64_w, i32_w]
                              rfl
                            refine pure_ (i := 10) (N := some 94) (v := ?_) (a' := ?_) #[true, true, true, true, true, true, true, true, true, true, true] rfl rfl (any_of HT_.out (by kernel_rfl)) (fun _ _ _ h => h) (Or.inl ⟨by rfl, ?_⟩) ?_ ?_
                            rotate_left
                            · intro w'
                              go_simp
                              with_reducible rfl
                            rotate_left
                            · simp only [Act.put, List.setIfInBounds_toArray, List.set_cons_zero, List.set_cons_succ, i64_w, i32_w]
                              rfl
                            refine done_ (done_of HT_.out (by kernel_rfl)) ?_
                            try go_wp2
                            go_roundg kj34
                            case measure => have := HJ10.out; have := HJ16.out; have := HK3.out; have := HJ34.out; omega
                            case rel => exact ⟨(wrap64 (x14_3 + 1)), (by first | rfl | (simp; done) | (simp [*]; done)), H', ⟨by have := HJ10.out; have := HJ16.out; have := HK3.out; have := HJ34.out; omega⟩, ⟨by (with_reducible repeat (first | apply Kd.R_alloc | apply Kd.R_drewN | apply Kd.R_drew)); exact HO_13.out⟩, ⟨by repeat (first | (with_reducible first | exact HB.out | apply below_alloc | apply pw_below_drewN | apply below_drew1) | exact HB.out)⟩⟩
                          · replace c40 := Bool.eq_false_iff.mpr c40
                            subst c40
                            have H1 : (damperlaw1_LabelBack.l0 kj34 y219 (wrap64 (x14_3 + 1))) = some r := by rw [if_neg (show ¬ (false = true) by decide)] at H; exact H
                            clear H
                            have H := H1
                            clear H1
                            have H' := Aside0.mk H
                            clear H
                            try go_wp2
                            replace HO_13 := Aside0.mk (Kd.R_drew HO_13.out)
                            replace HB := Aside0.mk (below_drew1 HB.out)
                            refine start_ (n := 11) (S := fun w' => True) (ds := []) #[false, false, false, false, false, false, false, false, false, false, false] (by kernel_rfl) rfl rfl trivial (fun hHeld => ?_); refine with_tabW damperlaw1_LabelBack.tab16 damperlaw1_LabelBack.bits16 (fun HT_ HW_ => ?_)
                            generalize wc.drew = w47 at HO_13 HB hHeld ⊢
                            refine pure_ (i := 0) (N := some 84) (v := ?_) (a' := ?_) #[true, false, false, false, false, false, false, false, false, false, false] rfl rfl (any_of HT_.out (by kernel_rfl)) (fun _ _ _ h => h) (Or.inl ⟨by rfl, ?_⟩) ?_ ?_
                            rotate_left
                            · intro w'
                              go_simp
                              with_reducible rfl
                            rotate_left
                            · simp only [Act.put, List.setIfInBounds_toArray, List.set_cons_zero, List.set_cons_succ, i64_w, i32_w]
                              rfl
                            refine pure_ (i := 1) (N := some 85) (v := ?_) (a' := ?_) #[true, true, false, false, false, false, false, false, false, false, false] rfl rfl (any_of HT_.out (by kernel_rfl)) (fun _ _ _ h => h) (Or.inl ⟨by rfl, ?_⟩) ?_ ?_
                            rotate_left
                            · intro w'
                              go_simp
                              with_reducible rfl
                            rotate_left
                            · simp only [Act.put, List.setIfInBounds_toArray, List.set_cons_zero, List.set_cons_succ, i64_w, i32_w]
                              rfl
                            refine pure_ (i := 2) (N := some 86) (v := undef) (a' := ?_) #[true, true, true, false, false, false, false, false, false, false, false] rfl rfl (any_of HT_.out (by kernel_rfl)) (fun _ _ _ h => h) (Or.inr ⟨by rfl, rfl⟩) ?_ ?_
                            rotate_left
                            · simp only [Act.put, List.setIfInBounds_toArray, List.set_cons_zero, List.set_cons_succ, i64_w, i32_w]
                              rfl
                            refine pure_ (i := 3) (N := some 87) (v := undef) (a' := ?_) #[true, true, true, true, false, false, false, false, false, false, false] rfl rfl (any_of HT_.out (by kernel_rfl)) (fun _ _ _ h => h) (Or.inr ⟨by rfl, rfl⟩) ?_ ?_
                            rotate_left
                            · simp only [Act.put, List.setIfInBounds_toArray, List.set_cons_zero, List.set_cons_succ, i64_w, i32_w]
                              rfl
                            refine pure_ (i := 4) (N := some 88) (v := undef) (a' := ?_) #[true, true, true, true, true, false, false, false, false, false, false] rfl rfl (any_of HT_.out (by kernel_rfl)) (fun _ _ _ h => h) (Or.inr ⟨by rfl, rfl⟩) ?_ ?_
                            rotate_left
                            · simp only [Act.put, List.setIfInBounds_toArray, List.set_cons_zero, List.set_cons_succ, i64_w, i32_w]
                              rfl
                            refine pure_ (i := 5) (N := some 89) (v := undef) (a' := ?_) #[true, true, true, true, true, true, false, false, false, false, false] rfl rfl (any_of HT_.out (by kernel_rfl)) (fun _ _ _ h => h) (Or.inr ⟨by rfl, rfl⟩) ?_ ?_
                            rotate_left
                            · simp only [Act.put, List.setIfInBounds_toArray, List.set_cons_zero, List.set_cons_succ, i64_w, i32_w]
                              rfl
                            refine pure_ (i := 6) (N := some 90) (v := undef) (a' := ?_) #[true, true, true, true, true, true, true, false, false, false, false] rfl rfl (any_of HT_.out (by kernel_rfl)) (fun _ _ _ h => h) (Or.inr ⟨by rfl, rfl⟩) ?_ ?_
                            rotate_left
                            · simp only [Act.put, List.setIfInBounds_toArray, List.set_cons_zero, List.set_cons_succ, i64_w, i32_w]
                              rfl
                            refine pure_ (i := 7) (N := some 91) (v := undef) (a' := ?_) #[true, true, true, true, true, true, true, true, false, false, false] rfl rfl (any_of HT_.out (by kernel_rfl)) (fun _ _ _ h => h) (Or.inr ⟨by rfl, rfl⟩) ?_ ?_
                            rotate_left
                            · simp only [Act.put, List.setIfInBounds_toArray, List.set_cons_zero, List.set_cons_succ, i64_w, i32_w]
                              rfl
                            refine pure_ (i := 8) (N := some 92) (v := undef) (a' := ?_) #[true, true, true, true, true, true, true, true, true, false, false] rfl rfl (any_of HT_.out (by kernel_rfl)) (fun _ _ _ h => h) (Or.inr ⟨by rfl, rfl⟩) ?_ ?_
                            rotate_left
                            · simp only [Act.put, List.setIfInBounds_toArray, List.set_cons_zero, List.set_cons_succ, i64_w, i32_w]
                              rfl
                            refine pure_ (i := 9) (N := some 93) (v := undef) (a' := ?_) #[true, true, true, true, true, true, true, true, true, true, false] rfl rfl (any_of HT_.out (by kernel_rfl)) (fun _ _ _ h => h) (Or.inr ⟨by rfl, rfl⟩) ?_ ?_
                            rotate_left
                            · simp only [Act.put, List.setIfInBounds_toArray, List.set_cons_zero, List.set_cons_succ, i64_w, i32_w]
                              rfl
                            refine pure_ (i := 10) (N := some 94) (v := ?_) (a' := ?_) #[true, true, true, true, true, true, true, true, true, true, true] rfl rfl (any_of HT_.out (by kernel_rfl)) (fun _ _ _ h => h) (Or.inl ⟨by rfl, ?_⟩) ?_ ?_
                            rotate_left
                            · intro w'
                              go_simp
                              with_reducible rfl
                            rotate_left
                            · simp only [Act.put, List.setIfInBounds_toArray, List.set_cons_zero, List.set_cons_succ, i64_w, i32_w]
                              rfl
                            refine done_ (done_of HT_.out (by kernel_rfl)) ?_
                            try go_wp2
                            go_roundg kj34
                            case measure => have := HJ10.out; have := HJ16.out; have := HK3.out; have := HJ34.out; omega
                            case rel => exact ⟨(wrap64 (x14_3 + 1)), (by first | rfl | (simp; done) | (simp [*]; done)), H', ⟨by have := HJ10.out; have := HJ16.out; have := HK3.out; have := HJ34.out; omega⟩, ⟨by (with_reducible repeat (first | apply Kd.R_alloc | apply Kd.R_drewN | apply Kd.R_drew)); exact HO_13.out⟩, ⟨by repeat (first | (with_reducible first | exact HB.out | apply below_alloc | apply pw_below_drewN | apply below_drew1) | exact HB.out)⟩⟩
                    · rw [if_neg c34] at H
                      have c34b0 : decide (x14_3 < (y219.length : Int)) = false := decide_eq_false c34
                      clear c34
                      obtain rfl := Option.some.inj H
                      obtain ⟨Ao48, co48, eo48⟩ := Kd.R_slice HO_13.out
                      subst eo48
                      go_wp2
                      go_ret
                      exact ⟨by first | rfl | (simp [errW_none, errW_some] <;> rfl) | (simp [*, errW_none, errW_some] <;> rfl), by repeat (first | (with_reducible first | exact HB.out | apply below_alloc | apply pw_below_drewN | apply below_drew1) | exact HB.out)⟩
  · replace c5 := Bool.eq_false_iff.mpr c5
    subst c5
    have H1 : (some false) = some r := by rw [if_neg (show ¬ (false = true) by decide)] at H; exact H
    clear H
    have H := H1
    clear H1
    exact absurd (Option.some.inj H) (by rw [hr0_.out]; decide)

/-- THE ONE PURE STATEMENT of damperlaw1_LabelBack: yours. -/
def damperlaw1_LabelBack.Pure : Prop := ∀ (l0 : List Int) (a1 : Int) (a2 : ByteArray), (l0.length ≤ maxLen ∧ ∀ y_ ∈ l0, (Lit.int .i64 y_).wf = true) → ((Lit.int .i64 a1).wf = true) → (a2.size ≤ maxLen) → ∃ k, damperlaw1_LabelBack.f k l0 a1 a2 = some true
theorem damperlaw1_LabelBack.walk (P : damperlaw1_LabelBack.Pure) (A0 : Option Addr) (c0 : Nat) (l0 : List Int) (a1 : Int) (a2 : ByteArray) (w : World) (hLd_ : LaidW w) (w0 : l0.length ≤ maxLen ∧ ∀ y_ ∈ l0, (Lit.int .i64 y_).wf = true) (w1 : (Lit.int .i64 a1).wf = true) (w2 : a2.size ≤ maxLen) (hr0 : Kd.C (Kd.int .i64) w A0 l0.length l0) (hc0 : l0.length ≤ c0) :
    Calls Tryd.prog 5 #[.slice A0 l0.length c0, .int .i64 a1, .string a2] w fun e w' => e = .returned (.bool true) ∧ Below w.heap.size w w' := by
  obtain ⟨k, h⟩ := P l0 a1 a2 w0 w1 w2
  refine (damperlaw1_LabelBack.calls k A0 c0 l0 a1 a2 true w ⟨hLd_⟩ hr0 hc0 ⟨rfl⟩ h).mono ?_
  rintro e w' ⟨rfl, hd⟩
  exact ⟨rfl, hd⟩

end Go.Proofs.YtgnnbnbmjifgfaaDoor.Ma
