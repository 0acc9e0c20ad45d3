-- Written by a program of this session (wip/tools/myprint.py), in the form of the kit's print. Not trusted: Lean checks it.
import Derived.Test.YtgnnbnbmjifgfaaDoorMax0
import Derived.Test.YtgnnbnbmjifgfaaDoorMax4
import Derived.Test.YtgnnbnbmjifgfaaDoorMax20
import Derived.Test.YtgnnbnbmjifgfaaDoorMax39
import Derived.Test.YtgnnbnbmjifgfaaDoorMax40
import Derived.Test.YtgnnbnbmjifgfaaDoorMax41
import Derived.Test.YtgnnbnbmjifgfaaDoorMax46
namespace Go.Proofs.YtgnnbnbmjifgfaaDoor.Ma
open Go.RowKit Go.Proofs.YtgnnbnbmjifgfaaDoorW.PrintWords Go.Proofs.YtgnnbnbmjifgfaaDoorW.PrintLast Go.Proofs.YtgnnbnbmjifgfaaDoorW.PrintMore
attribute [local go_sem] max2_int min2_int max_two min_two max_three min_three max_four min_four   -- for this text's walks alone
set_option linter.unusedVariables false
set_option linter.unusedSimpArgs false

/-! ### damperlaw1_LabelApart: function 6 -/
mutual
def damperlaw1_LabelApart.j0 : Nat → Int → Int → ByteArray → ByteArray → Bool → Option (Bool)
  | 0, _, _, _, _, _ => none
  | k + 1, x2, x3, x9, x10, x30 => if x30 = true then (some true) else ((damperlaw1_within.f x2 9999).bind fun t233 => ((damperlaw1_within.f x3 9999).bind fun t234 => ((label_Rev.f k x9 (wrap64 (1 + t233))).bind fun t235 => ((label_Rev.f k x10 (wrap64 (1 + t234))).bind fun t236 => (damperlaw1_LabelApart.j1 k x9 x10 (wrap64 (1 + t233)) (wrap64 (1 + t234)) t235 t236)))))
def damperlaw1_LabelApart.j1 : Nat → ByteArray → ByteArray → Int → Int → ByteArray → ByteArray → Option (Bool)
  | 0, _, _, _, _, _, _ => none
  | k + 1, x9, x10, x11, x12, x13, x14 => if x13.toList = ([] : List UInt8) then (some false) else (if x14.toList = ([] : List UInt8) then (some false) else (if x9.toList = x10.toList then (if ((x13.toList == x14.toList) == (x11 == x12)) = true then ((damperref1_Digits.f k x11).bind fun t237 => (some ((x13.size : Int) == (wrap64 ((wrap64 ((x9.size : Int) + 1)) + (t237.size : Int)))))) else (some false)) else (if ((x13.toList == x14.toList) == false) = true then ((damperref1_Digits.f k x11).bind fun t238 => (some ((x13.size : Int) == (wrap64 ((wrap64 ((x9.size : Int) + 1)) + (t238.size : Int)))))) else (some false))))
end
def damperlaw1_LabelApart.f (k : Nat) (l0 : List Int) (l1 : List Int) (a2 : Int) (a3 : Int) : Option (Bool) := (damperlaw1_known.f k).bind fun t228 => (if t228 = true then ((damperlaw1_Text.f k l0).bind fun t229 => (if 1 + t229.size ≤ 9223372036854775807 then ((damperlaw1_Text.f k l1).bind fun t230 => (if 1 + t230.size ≤ 9223372036854775807 then ((label_Name.f ((⟨#[97]⟩ : ByteArray) ++ t229)).bind fun t231 => (if t231 = true then ((label_Name.f ((⟨#[97]⟩ : ByteArray) ++ t230)).bind fun t232 => (damperlaw1_LabelApart.j0 k a2 a3 ((⟨#[97]⟩ : ByteArray) ++ t229) ((⟨#[97]⟩ : ByteArray) ++ t230) (!t232))) else (damperlaw1_LabelApart.j0 k a2 a3 ((⟨#[97]⟩ : ByteArray) ++ t229) ((⟨#[97]⟩ : ByteArray) ++ t230) true))) else (none))) else (none))) else (some false))
theorem damperlaw1_LabelApart.mono_l : ∀ k, (∀ y0 y1 y2 y3 y4, LeO (damperlaw1_LabelApart.j0 k y0 y1 y2 y3 y4) (damperlaw1_LabelApart.j0 (k + 1) y0 y1 y2 y3 y4)) ∧ (∀ y0 y1 y2 y3 y4 y5, LeO (damperlaw1_LabelApart.j1 k y0 y1 y2 y3 y4 y5) (damperlaw1_LabelApart.j1 (k + 1) y0 y1 y2 y3 y4 y5))
  | 0 => ⟨fun _ _ _ _ _ r h => by simp [damperlaw1_LabelApart.j0] at h, fun _ _ _ _ _ _ r h => by simp [damperlaw1_LabelApart.j1] at h⟩
  | k + 1 => by
    obtain ⟨ih0, ih1⟩ := damperlaw1_LabelApart.mono_l k
    refine ⟨?_, ?_⟩
    · intro y0 y1 y2 y3 y4
      unfold damperlaw1_LabelApart.j0
      repeat' first
      | (with_reducible exact ih0 _ _ _ _ _)
      | (with_reducible exact ih1 _ _ _ _ _ _)
      | (with_reducible exact damperlaw1_Text.mono _ _)
      | (with_reducible exact damperlaw1_known.mono _)
      | (with_reducible exact damperref1_Digits.mono _ _)
      | (with_reducible exact label_Rev.mono _ _ _)
      | (with_reducible exact LeO.refl _)
      | (with_reducible exact LeO.none _)
      | (with_reducible refine LeO.ite ?_ ?_)
      | (with_reducible refine LeO.bind ?_ (fun _ => ?_))
      | exact ih0 _ _ _ _ _
      | exact ih1 _ _ _ _ _ _
      | exact damperlaw1_Text.mono _ _
      | exact damperlaw1_known.mono _
      | exact damperref1_Digits.mono _ _
      | exact label_Rev.mono _ _ _
      | exact LeO.none _
      | refine LeO.ite ?_ ?_
      | refine LeO.bind ?_ (fun _ => ?_)
    · intro y0 y1 y2 y3 y4 y5
      unfold damperlaw1_LabelApart.j1
      repeat' first
      | (with_reducible exact ih0 _ _ _ _ _)
      | (with_reducible exact ih1 _ _ _ _ _ _)
      | (with_reducible exact damperlaw1_Text.mono _ _)
      | (with_reducible exact damperlaw1_known.mono _)
      | (with_reducible exact damperref1_Digits.mono _ _)
      | (with_reducible exact label_Rev.mono _ _ _)
      | (with_reducible exact LeO.refl _)
      | (with_reducible exact LeO.none _)
      | (with_reducible refine LeO.ite ?_ ?_)
      | (with_reducible refine LeO.bind ?_ (fun _ => ?_))
      | exact ih0 _ _ _ _ _
      | exact ih1 _ _ _ _ _ _
      | exact damperlaw1_Text.mono _ _
      | exact damperlaw1_known.mono _
      | exact damperref1_Digits.mono _ _
      | exact label_Rev.mono _ _ _
      | exact LeO.none _
      | refine LeO.ite ?_ ?_
      | refine LeO.bind ?_ (fun _ => ?_)
theorem damperlaw1_LabelApart.mono : ∀ a0 a1 a2 a3 k, LeO (damperlaw1_LabelApart.f k a0 a1 a2 a3) (damperlaw1_LabelApart.f (k + 1) a0 a1 a2 a3) := by
  intro a0 a1 a2 a3 k
  obtain ⟨ih0, ih1⟩ := damperlaw1_LabelApart.mono_l k
  unfold damperlaw1_LabelApart.f
  repeat' first
      | (with_reducible exact ih0 _ _ _ _ _)
      | (with_reducible exact ih1 _ _ _ _ _ _)
      | (with_reducible exact damperlaw1_Text.mono _ _)
      | (with_reducible exact damperlaw1_known.mono _)
      | (with_reducible exact damperref1_Digits.mono _ _)
      | (with_reducible exact label_Rev.mono _ _ _)
      | (with_reducible exact LeO.refl _)
      | (with_reducible exact LeO.none _)
      | (with_reducible refine LeO.ite ?_ ?_)
      | (with_reducible refine LeO.bind ?_ (fun _ => ?_))
      | exact ih0 _ _ _ _ _
      | exact ih1 _ _ _ _ _ _
      | exact damperlaw1_Text.mono _ _
      | exact damperlaw1_known.mono _
      | exact damperref1_Digits.mono _ _
      | exact label_Rev.mono _ _ _
      | exact LeO.none _
      | refine LeO.ite ?_ ?_
      | refine LeO.bind ?_ (fun _ => ?_)
set_option maxHeartbeats 8000000 in
set_option maxRecDepth 100000 in
theorem damperlaw1_LabelApart.calls (k : Nat) (A0 : Option Addr) (c0 : Nat) (l0 : List Int) (A1 : Option Addr) (c1 : Nat) (l1 : List Int) (a2 : Int) (a3 : Int) (r : Bool) (w : World) (hLd_ : Aside0 (LaidW w)) (hr0 : Kd.C (Kd.int .i64) w A0 l0.length l0) (hc0 : l0.length ≤ c0) (hr1 : Kd.C (Kd.int .i64) w A1 l1.length l1) (hc1 : l1.length ≤ c1) (hr0_ : Aside0 (r = true)) (h : damperlaw1_LabelApart.f k l0 l1 a2 a3 = some r) :
    Calls Tryd.prog 6 #[.slice A0 l0.length c0, .slice A1 l1.length c1, .int .i64 a2, .int .i64 a3] w fun e w' => e = .returned (.bool r) ∧ Below w.heap.size w w' := by
  have HR0 := Aside0.mk hr0
  have HC0 := Aside0.mk hc0
  clear hr0 hc0
  have HR1 := Aside0.mk hr1
  have HC1 := Aside0.mk hc1
  clear hr1 hc1
  have HB := Aside0.mk (Below.refl w.heap.size w)
  have H : ((damperlaw1_known.f k).bind fun t228 => (if t228 = true then ((damperlaw1_Text.f k l0).bind fun t229 => (if 1 + t229.size ≤ 9223372036854775807 then ((damperlaw1_Text.f k l1).bind fun t230 => (if 1 + t230.size ≤ 9223372036854775807 then ((label_Name.f ((⟨#[97]⟩ : ByteArray) ++ t229)).bind fun t231 => (if t231 = true then ((label_Name.f ((⟨#[97]⟩ : ByteArray) ++ t230)).bind fun t232 => (damperlaw1_LabelApart.j0 k a2 a3 ((⟨#[97]⟩ : ByteArray) ++ t229) ((⟨#[97]⟩ : ByteArray) ++ t230) (!t232))) else (damperlaw1_LabelApart.j0 k a2 a3 ((⟨#[97]⟩ : ByteArray) ++ t229) ((⟨#[97]⟩ : ByteArray) ++ t230) true))) else (none))) else (none))) else (some false))) = some r := h
  clear h
  replace H := Option.bind_eq_some_iff.mp H
  obtain ⟨t228, A50, H⟩ := H
  replace H : (if t228 = true then ((damperlaw1_Text.f k l0).bind fun t229 => (if 1 + t229.size ≤ 9223372036854775807 then ((damperlaw1_Text.f k l1).bind fun t230 => (if 1 + t230.size ≤ 9223372036854775807 then ((label_Name.f ((⟨#[97]⟩ : ByteArray) ++ t229)).bind fun t231 => (if t231 = true then ((label_Name.f ((⟨#[97]⟩ : ByteArray) ++ t230)).bind fun t232 => (damperlaw1_LabelApart.j0 k a2 a3 ((⟨#[97]⟩ : ByteArray) ++ t229) ((⟨#[97]⟩ : ByteArray) ++ t230) (!t232))) else (damperlaw1_LabelApart.j0 k a2 a3 ((⟨#[97]⟩ : ByteArray) ++ t229) ((⟨#[97]⟩ : ByteArray) ++ t230) true))) else (none))) else (none))) else (some false)) = some r := H
  have A5 := Aside0.mk A50
  clear A50
  by_cases c6 : t228 = true
  · subst c6
    have H1 : ((damperlaw1_Text.f k l0).bind fun t229 => (if 1 + t229.size ≤ 9223372036854775807 then ((damperlaw1_Text.f k l1).bind fun t230 => (if 1 + t230.size ≤ 9223372036854775807 then ((label_Name.f ((⟨#[97]⟩ : ByteArray) ++ t229)).bind fun t231 => (if t231 = true then ((label_Name.f ((⟨#[97]⟩ : ByteArray) ++ t230)).bind fun t232 => (damperlaw1_LabelApart.j0 k a2 a3 ((⟨#[97]⟩ : ByteArray) ++ t229) ((⟨#[97]⟩ : ByteArray) ++ t230) (!t232))) else (damperlaw1_LabelApart.j0 k a2 a3 ((⟨#[97]⟩ : ByteArray) ++ t229) ((⟨#[97]⟩ : ByteArray) ++ t230) true))) else (none))) else (none))) = some r := by rw [if_pos rfl] at H; exact H
    clear H
    have H := H1
    clear H1
    replace H := Option.bind_eq_some_iff.mp H
    obtain ⟨t229, A70, H⟩ := H
    replace H : (if 1 + t229.size ≤ 9223372036854775807 then ((damperlaw1_Text.f k l1).bind fun t230 => (if 1 + t230.size ≤ 9223372036854775807 then ((label_Name.f ((⟨#[97]⟩ : ByteArray) ++ t229)).bind fun t231 => (if t231 = true then ((label_Name.f ((⟨#[97]⟩ : ByteArray) ++ t230)).bind fun t232 => (damperlaw1_LabelApart.j0 k a2 a3 ((⟨#[97]⟩ : ByteArray) ++ t229) ((⟨#[97]⟩ : ByteArray) ++ t230) (!t232))) else (damperlaw1_LabelApart.j0 k a2 a3 ((⟨#[97]⟩ : ByteArray) ++ t229) ((⟨#[97]⟩ : ByteArray) ++ t230) true))) else (none))) else (none)) = some r := H
    have A7 := Aside0.mk A70
    clear A70
    by_cases c8 : 1 + t229.size ≤ 9223372036854775807
    rotate_left
    · rw [if_neg c8] at H
      exact absurd H (by simp)
    rw [if_pos c8] at H
    have c8b0 := eq_true c8
    have c8b1 : decide (1 + t229.size ≤ 9223372036854775807) = true := decide_eq_true c8
    try have c8b2 : (9223372036854775807 < 1 + t229.size) = False := eq_false (Nat.not_lt.2 c8)
    try (have c8b4 := c8; simp at c8b4; have c8b5 := eq_false (Nat.not_lt.2 c8b4))
    replace H := Option.bind_eq_some_iff.mp H
    obtain ⟨t230, A90, H⟩ := H
    replace H : (if 1 + t230.size ≤ 9223372036854775807 then ((label_Name.f ((⟨#[97]⟩ : ByteArray) ++ t229)).bind fun t231 => (if t231 = true then ((label_Name.f ((⟨#[97]⟩ : ByteArray) ++ t230)).bind fun t232 => (damperlaw1_LabelApart.j0 k a2 a3 ((⟨#[97]⟩ : ByteArray) ++ t229) ((⟨#[97]⟩ : ByteArray) ++ t230) (!t232))) else (damperlaw1_LabelApart.j0 k a2 a3 ((⟨#[97]⟩ : ByteArray) ++ t229) ((⟨#[97]⟩ : ByteArray) ++ t230) true))) else (none)) = some r := H
    have A9 := Aside0.mk A90
    clear A90
    by_cases c10 : 1 + t230.size ≤ 9223372036854775807
    rotate_left
    · rw [if_neg c10] at H
      exact absurd H (by simp)
    rw [if_pos c10] at H
    have c10b0 := eq_true c10
    have c10b1 : decide (1 + t230.size ≤ 9223372036854775807) = true := decide_eq_true c10
    try have c10b2 : (9223372036854775807 < 1 + t230.size) = False := eq_false (Nat.not_lt.2 c10)
    try (have c10b4 := c10; simp at c10b4; have c10b5 := eq_false (Nat.not_lt.2 c10b4))
    have HC11 := Aside0.mk H
    clear H
    go_enter Tryd.func6, Tryd.ntmps6
    go_upto_region 4 with (first | ((with_reducible refine gate_callee (f := 10) rfl ?_); refine goesL_ (some 15) rfl rfl Tryd.func10 (by kernel_rfl) rfl #[] rfl (by (try simp only [List.map_toArray, List.map_cons, List.map_nil]); first | done | rfl | (simp only [List.length_drop, List.length_take]; rfl)) ?_; (with_reducible refine (damperlaw1_known.calls k  true _ ?side1 A5.out).mono ?_); (case side1 => first | exact hLd_.out | exact hLd_ | exact ⟨LaidW.below hLd_.out (by repeat (first | (with_reducible first | exact HB.out | apply below_alloc | apply pw_below_drewN | apply below_drew1) | exact HB.out))⟩ | exact ⟨LaidW.below hLd_.out (by repeat (first | exact Below.refl _ _ | apply below_alloc | apply pw_below_drewN | apply below_drew1))⟩); rintro e w12 ⟨rfl, hb⟩; refine ⟨_, rfl, ?_⟩; have n0_ := Aside0.mk (below_step (by repeat (first | (with_reducible first | exact HB.out | apply below_alloc | apply pw_below_drewN | apply below_drew1) | exact HB.out)) hb); clear HB; have HB := n0_; clear n0_; (try clear hb); (try clear hb2); (try clear hk); (try clear hi)) | ((with_reducible refine gate_callee (f := 11) rfl ?_); refine goesL_ (some 18) rfl rfl Tryd.func11 (by kernel_rfl) rfl #[.slice A0 l0.length c0] rfl (by (try simp only [List.map_toArray, List.map_cons, List.map_nil]); first | done | rfl | (simp only [List.length_drop, List.length_take]; rfl)) ?_; (with_reducible refine (damperlaw1_Text.calls k _ _ l0 t229 _ ?side1 ?side2 A7.out).mono ?_); (case side1 => repeat (first | exact (Kd.C_below HR0.out HB.out) | (with_reducible refine Kd.C_alloc ?_ _) | (with_reducible refine Kd.C_drewN ?_ _) | (with_reducible refine Kd.C_drew ?_))); (case side2 => exact HC0.out); rintro e w13 ⟨rfl, hb⟩; refine ⟨_, rfl, ?_⟩; have n0_ := Aside0.mk (below_step (by repeat (first | (with_reducible first | exact HB.out | apply below_alloc | apply pw_below_drewN | apply below_drew1) | exact HB.out)) hb); clear HB; have HB := n0_; clear n0_; (try clear hb); (try clear hb2); (try clear hk); (try clear hi)) | ((with_reducible refine gate_callee (f := 11) rfl ?_); refine goesL_ (some 21) rfl rfl Tryd.func11 (by kernel_rfl) rfl #[.slice A1 l1.length c1] rfl (by (try simp only [List.map_toArray, List.map_cons, List.map_nil]); first | done | rfl | (simp only [List.length_drop, List.length_take]; rfl)) ?_; (with_reducible refine (damperlaw1_Text.calls k _ _ l1 t230 _ ?side1 ?side2 A9.out).mono ?_); (case side1 => repeat (first | exact (Kd.C_below HR1.out HB.out) | (with_reducible refine Kd.C_alloc ?_ _) | (with_reducible refine Kd.C_drewN ?_ _) | (with_reducible refine Kd.C_drew ?_))); (case side2 => exact HC1.out); rintro e w14 ⟨rfl, hb⟩; refine ⟨_, rfl, ?_⟩; have n0_ := Aside0.mk (below_step (by repeat (first | (with_reducible first | exact HB.out | apply below_alloc | apply pw_below_drewN | apply below_drew1) | exact HB.out)) hb); clear HB; have HB := n0_; clear n0_; (try clear hb); (try clear hb2); (try clear hk); (try clear hi)))
    (try simp only [Act.put, List.setIfInBounds_toArray, List.set_cons_zero, List.set_cons_succ])
    go_cut [30] (fun v30 wc => ∃ (kq : Nat) (x30_10 : Bool), v30 = .bool x30_10 ∧ Aside0 (damperlaw1_LabelApart.j0 kq a2 a3 ((⟨#[97]⟩ : ByteArray) ++ t229) ((⟨#[97]⟩ : ByteArray) ++ t230) x30_10 = some r) ∧ Aside0 (kq ≤ k) ∧ Aside0 (Below w.heap.size w wc))
    case first =>
      have H := HC11.out
      clear HC11
      replace H := Option.bind_eq_some_iff.mp H
      obtain ⟨t231, A150, H⟩ := H
      replace H : (if t231 = true then ((label_Name.f ((⟨#[97]⟩ : ByteArray) ++ t230)).bind fun t232 => (damperlaw1_LabelApart.j0 k a2 a3 ((⟨#[97]⟩ : ByteArray) ++ t229) ((⟨#[97]⟩ : ByteArray) ++ t230) (!t232))) else (damperlaw1_LabelApart.j0 k a2 a3 ((⟨#[97]⟩ : ByteArray) ++ t229) ((⟨#[97]⟩ : ByteArray) ++ t230) true)) = some r := H
      have A15 := Aside0.mk A150
      clear A150
      by_cases c16 : t231 = true
      · subst c16
        have H1 : ((label_Name.f ((⟨#[97]⟩ : ByteArray) ++ t230)).bind fun t232 => (damperlaw1_LabelApart.j0 k a2 a3 ((⟨#[97]⟩ : ByteArray) ++ t229) ((⟨#[97]⟩ : ByteArray) ++ t230) (!t232))) = some r := by rw [if_pos rfl] at H; exact H
        clear H
        have H := H1
        clear H1
        replace H := Option.bind_eq_some_iff.mp H
        obtain ⟨t232, A170, H⟩ := H
        replace H : (damperlaw1_LabelApart.j0 k a2 a3 ((⟨#[97]⟩ : ByteArray) ++ t229) ((⟨#[97]⟩ : ByteArray) ++ t230) (!t232)) = some r := H
        have A17 := Aside0.mk A170
        clear A170
        have H' := Aside0.mk H
        clear H
        go_wp2_with (first | ((with_reducible refine gate_callee (f := 13) rfl ?_); refine goesL_ (some 24) rfl rfl Tryd.func13 (by kernel_rfl) rfl #[.string ((⟨#[97]⟩ : ByteArray) ++ t229)] rfl (by (try simp only [List.map_toArray, List.map_cons, List.map_nil]); first | done | rfl | (simp only [List.length_drop, List.length_take]; rfl)) ?_; (with_reducible refine (label_Name.calls ((⟨#[97]⟩ : ByteArray) ++ t229) true _ A15.out).mono ?_); rintro e w18 ⟨rfl, hb⟩; refine ⟨_, rfl, ?_⟩; have n0_ := Aside0.mk (below_step (by repeat (first | (with_reducible first | exact HB.out | apply below_alloc | apply pw_below_drewN | apply below_drew1) | exact HB.out)) hb); clear HB; have HB := n0_; clear n0_; (try clear hb); (try clear hb2); (try clear hk); (try clear hi)) | (go_at_call 13; (with_reducible refine (label_Name.calls ((⟨#[97]⟩ : ByteArray) ++ t230) t232 _ A17.out).mono ?_); rintro e w19 ⟨rfl, hb⟩; have n0_ := Aside0.mk (below_step (by repeat (first | (with_reducible first | exact HB.out | apply below_alloc | apply pw_below_drewN | apply below_drew1) | exact HB.out)) hb); clear HB; have HB := n0_; clear n0_; (try clear hb); (try clear hb2); (try clear hk); (try clear hi)))
        go_meet
        case rel => exact ⟨_, (!t232), (by first | rfl | (simp; done) | (simp [*]; done)), H', ⟨by first | omega | exact Nat.le_refl _⟩, ⟨by repeat (first | (with_reducible first | exact HB.out | apply below_alloc | apply pw_below_drewN | apply below_drew1) | exact HB.out)⟩⟩
      · replace c16 := Bool.eq_false_iff.mpr c16
        subst c16
        have H1 : (damperlaw1_LabelApart.j0 k a2 a3 ((⟨#[97]⟩ : ByteArray) ++ t229) ((⟨#[97]⟩ : ByteArray) ++ t230) true) = some r := by rw [if_neg (show ¬ (false = true) by decide)] at H; exact H
        clear H
        have H := H1
        clear H1
        have H' := Aside0.mk H
        clear H
        go_wp2_with (first | ((with_reducible refine gate_callee (f := 13) rfl ?_); refine goesL_ (some 24) rfl rfl Tryd.func13 (by kernel_rfl) rfl #[.string ((⟨#[97]⟩ : ByteArray) ++ t229)] rfl (by (try simp only [List.map_toArray, List.map_cons, List.map_nil]); first | done | rfl | (simp only [List.length_drop, List.length_take]; rfl)) ?_; (with_reducible refine (label_Name.calls ((⟨#[97]⟩ : ByteArray) ++ t229) false _ A15.out).mono ?_); rintro e w20 ⟨rfl, hb⟩; refine ⟨_, rfl, ?_⟩; have n0_ := Aside0.mk (below_step (by repeat (first | (with_reducible first | exact HB.out | apply below_alloc | apply pw_below_drewN | apply below_drew1) | exact HB.out)) hb); clear HB; have HB := n0_; clear n0_; (try clear hb); (try clear hb2); (try clear hk); (try clear hi)))
        go_meet
        case rel => exact ⟨_, (true), (by first | rfl | (simp; done) | (simp [*]; done)), H', ⟨by first | omega | exact Nat.le_refl _⟩, ⟨by repeat (first | (with_reducible first | exact HB.out | apply below_alloc | apply pw_below_drewN | apply below_drew1) | exact HB.out)⟩⟩
    case rest =>
      clear HC11
      try clear c1
      try clear p2
      try clear c6
      try clear c8
      try clear c8b0
      try clear c8b1
      try clear c8b2
      try clear c10
      try clear c10b0
      try clear c10b1
      try clear c10b2
      try clear c11
      try clear c13
      try clear c16
      obtain ⟨kq, x30_10, rfl, HA, HJ10, HB⟩ := hcut
      cases kq with
      | zero => exact absurd HA.out (by simp [damperlaw1_LabelApart.j0])
      | succ kj10 =>
        have H := HA.out
        clear HA
        simp only [damperlaw1_LabelApart.j0] at H
        by_cases c21 : x30_10 = true
        · subst c21
          have H1 : (some true) = some r := by rw [if_pos rfl] at H; exact H
          clear H
          have H := H1
          clear H1
          obtain rfl := Option.some.inj H
          go_wp2
          go_ret
          exact ⟨by first | rfl | (simp [errW_none, errW_some] <;> rfl) | (simp [*, errW_none, errW_some] <;> rfl), by repeat (first | (with_reducible first | exact HB.out | apply below_alloc | apply pw_below_drewN | apply below_drew1) | exact HB.out)⟩
        · replace c21 := Bool.eq_false_iff.mpr c21
          subst c21
          have H1 : ((damperlaw1_within.f a2 9999).bind fun t233 => ((damperlaw1_within.f a3 9999).bind fun t234 => ((label_Rev.f kj10 ((⟨#[97]⟩ : ByteArray) ++ t229) (wrap64 (1 + t233))).bind fun t235 => ((label_Rev.f kj10 ((⟨#[97]⟩ : ByteArray) ++ t230) (wrap64 (1 + t234))).bind fun t236 => (damperlaw1_LabelApart.j1 kj10 ((⟨#[97]⟩ : ByteArray) ++ t229) ((⟨#[97]⟩ : ByteArray) ++ t230) (wrap64 (1 + t233)) (wrap64 (1 + t234)) t235 t236))))) = some r := by rw [if_neg (show ¬ (false = true) by decide)] at H; exact H
          clear H
          have H := H1
          clear H1
          replace H := Option.bind_eq_some_iff.mp H
          obtain ⟨t233, A220, H⟩ := H
          replace H : ((damperlaw1_within.f a3 9999).bind fun t234 => ((label_Rev.f kj10 ((⟨#[97]⟩ : ByteArray) ++ t229) (wrap64 (1 + t233))).bind fun t235 => ((label_Rev.f kj10 ((⟨#[97]⟩ : ByteArray) ++ t230) (wrap64 (1 + t234))).bind fun t236 => (damperlaw1_LabelApart.j1 kj10 ((⟨#[97]⟩ : ByteArray) ++ t229) ((⟨#[97]⟩ : ByteArray) ++ t230) (wrap64 (1 + t233)) (wrap64 (1 + t234)) t235 t236)))) = some r := H
          have A22 := Aside0.mk A220
          clear A220
          replace H := Option.bind_eq_some_iff.mp H
          obtain ⟨t234, A230, H⟩ := H
          replace H : ((label_Rev.f kj10 ((⟨#[97]⟩ : ByteArray) ++ t229) (wrap64 (1 + t233))).bind fun t235 => ((label_Rev.f kj10 ((⟨#[97]⟩ : ByteArray) ++ t230) (wrap64 (1 + t234))).bind fun t236 => (damperlaw1_LabelApart.j1 kj10 ((⟨#[97]⟩ : ByteArray) ++ t229) ((⟨#[97]⟩ : ByteArray) ++ t230) (wrap64 (1 + t233)) (wrap64 (1 + t234)) t235 t236))) = some r := H
          have A23 := Aside0.mk A230
          clear A230
          have HC24 := Aside0.mk H
          clear H
          go_upto_region 7 with (first | ((with_reducible refine gate_callee (f := 12) rfl ?_); refine goesL_ (some 32) rfl rfl Tryd.func12 (by kernel_rfl) rfl #[.int .i64 a2, .int .i64 9999] rfl (by (try simp only [List.map_toArray, List.map_cons, List.map_nil]); first | done | rfl | (simp only [List.length_drop, List.length_take]; rfl)) ?_; (with_reducible refine (damperlaw1_within.calls a2 9999 t233 _ A22.out).mono ?_); rintro e w' ⟨rfl, ⟨nd, rfl⟩⟩; refine ⟨_, rfl, ?_⟩) | ((with_reducible refine gate_callee (f := 12) rfl ?_); refine goesL_ (some 35) rfl rfl Tryd.func12 (by kernel_rfl) rfl #[.int .i64 a3, .int .i64 9999] rfl (by (try simp only [List.map_toArray, List.map_cons, List.map_nil]); first | done | rfl | (simp only [List.length_drop, List.length_take]; rfl)) ?_; (with_reducible refine (damperlaw1_within.calls a3 9999 t234 _ A23.out).mono ?_); rintro e w' ⟨rfl, ⟨nd, rfl⟩⟩; refine ⟨_, rfl, ?_⟩))
          (try simp only [Act.put, List.setIfInBounds_toArray, List.set_cons_zero, List.set_cons_succ])
          go_cut [13, 14] (fun v13 v14 wc => ∃ (kq : Nat) (x13_23 : ByteArray) (x14_23 : ByteArray), v13 = .string x13_23 ∧ v14 = .string x14_23 ∧ Aside0 (damperlaw1_LabelApart.j1 kq ((⟨#[97]⟩ : ByteArray) ++ t229) ((⟨#[97]⟩ : ByteArray) ++ t230) (wrap64 (1 + t233)) (wrap64 (1 + t234)) x13_23 x14_23 = some r) ∧ Aside0 (kq ≤ kj10) ∧ Aside0 (Below w.heap.size w wc))
          case first =>
            have H := HC24.out
            clear HC24
            replace H := Option.bind_eq_some_iff.mp H
            obtain ⟨t235, A250, H⟩ := H
            replace H : ((label_Rev.f kj10 ((⟨#[97]⟩ : ByteArray) ++ t230) (wrap64 (1 + t234))).bind fun t236 => (damperlaw1_LabelApart.j1 kj10 ((⟨#[97]⟩ : ByteArray) ++ t229) ((⟨#[97]⟩ : ByteArray) ++ t230) (wrap64 (1 + t233)) (wrap64 (1 + t234)) t235 t236)) = some r := H
            have A25 := Aside0.mk A250
            clear A250
            replace H := Option.bind_eq_some_iff.mp H
            obtain ⟨t236, A260, H⟩ := H
            replace H : (damperlaw1_LabelApart.j1 kj10 ((⟨#[97]⟩ : ByteArray) ++ t229) ((⟨#[97]⟩ : ByteArray) ++ t230) (wrap64 (1 + t233)) (wrap64 (1 + t234)) t235 t236) = some r := H
            have A26 := Aside0.mk A260
            clear A260
            have H' := Aside0.mk H
            clear H
            go_wp2_with (first | ((with_reducible refine gate_callee (f := 17) rfl ?_); refine goesL_ (some 39) rfl rfl Tryd.func17 (by kernel_rfl) rfl #[.string ((⟨#[97]⟩ : ByteArray) ++ t229), .int .i64 (wrap64 (1 + t233))] rfl (by (try simp only [List.map_toArray, List.map_cons, List.map_nil]); first | done | rfl | (simp only [List.length_drop, List.length_take]; rfl)) ?_; (with_reducible refine (label_Rev.calls kj10 ((⟨#[97]⟩ : ByteArray) ++ t229) (wrap64 (1 + t233)) t235 _ ?side1 A25.out).mono ?_); (case side1 => first | exact hLd_.out | exact hLd_ | exact ⟨LaidW.below hLd_.out (by repeat (first | (with_reducible first | exact HB.out | apply below_alloc | apply pw_below_drewN | apply below_drew1) | exact HB.out))⟩ | exact ⟨LaidW.below hLd_.out (by repeat (first | exact Below.refl _ _ | apply below_alloc | apply pw_below_drewN | apply below_drew1))⟩); rintro e w27 ⟨rfl, hb⟩; refine ⟨_, rfl, ?_⟩; have n0_ := Aside0.mk (below_step (by repeat (first | (with_reducible first | exact HB.out | apply below_alloc | apply pw_below_drewN | apply below_drew1) | exact HB.out)) hb); clear HB; have HB := n0_; clear n0_; (try clear hb); (try clear hb2); (try clear hk); (try clear hi)) | ((with_reducible refine gate_callee (f := 17) rfl ?_); refine goesL_ (some 42) rfl rfl Tryd.func17 (by kernel_rfl) rfl #[.string ((⟨#[97]⟩ : ByteArray) ++ t230), .int .i64 (wrap64 (1 + t234))] rfl (by (try simp only [List.map_toArray, List.map_cons, List.map_nil]); first | done | rfl | (simp only [List.length_drop, List.length_take]; rfl)) ?_; (with_reducible refine (label_Rev.calls kj10 ((⟨#[97]⟩ : ByteArray) ++ t230) (wrap64 (1 + t234)) t236 _ ?side1 A26.out).mono ?_); (case side1 => first | exact hLd_.out | exact hLd_ | exact ⟨LaidW.below hLd_.out (by repeat (first | (with_reducible first | exact HB.out | apply below_alloc | apply pw_below_drewN | apply below_drew1) | exact HB.out))⟩ | exact ⟨LaidW.below hLd_.out (by repeat (first | exact Below.refl _ _ | apply below_alloc | apply pw_below_drewN | apply below_drew1))⟩); rintro e w28 ⟨rfl, hb⟩; refine ⟨_, rfl, ?_⟩; have n0_ := Aside0.mk (below_step (by repeat (first | (with_reducible first | exact HB.out | apply below_alloc | apply pw_below_drewN | apply below_drew1) | exact HB.out)) hb); clear HB; have HB := n0_; clear n0_; (try clear hb); (try clear hb2); (try clear hk); (try clear hi)))
            go_meet
            case rel => exact ⟨_, (t235), (t236), (by first | rfl | (simp; done) | (simp [*]; done)), (by first | rfl | (simp; done) | (simp [*]; done)), H', ⟨by have := HJ10.out; first | omega | exact Nat.le_refl _⟩, ⟨by repeat (first | (with_reducible first | exact HB.out | apply below_alloc | apply pw_below_drewN | apply below_drew1) | exact HB.out)⟩⟩
          case rest =>
            clear HC24
            try clear c1
            try clear c2
            try clear p2
            try clear c6
            try clear p6
            try clear c8
            try clear c8b0
            try clear c8b1
            try clear c8b2
            try clear c10
            try clear c10b0
            try clear c10b1
            try clear c10b2
            try clear c11
            try clear c12
            try clear c13
            try clear c16
            try clear c17
            try clear c21
            try clear p2
            obtain ⟨kq, x13_23, x14_23, rfl, rfl, HA, HJ23, HB⟩ := hcut
            cases kq with
            | zero => exact absurd HA.out (by simp [damperlaw1_LabelApart.j1])
            | succ kj23 =>
              have H := HA.out
              clear HA
              simp only [damperlaw1_LabelApart.j1] at H
              by_cases c29 : x13_23.toList = ([] : List UInt8)
              · rw [if_pos c29] at H
                have c29b0 : (x13_23.toList == ([] : List UInt8)) = true := beq_iff_eq.mpr c29
                have c29b1 : (x13_23.toList != ([] : List UInt8)) = false := bne_eq_false_iff_eq.mpr c29
                clear c29
                exact absurd (Option.some.inj H) (by rw [hr0_.out]; decide)
              rw [if_neg c29] at H
              have c29b0 : (x13_23.toList == ([] : List UInt8)) = false := beq_eq_false_iff_ne.mpr c29
              have c29b1 : (x13_23.toList != ([] : List UInt8)) = true := bne_iff_ne.mpr c29
              by_cases c30 : x14_23.toList = ([] : List UInt8)
              · rw [if_pos c30] at H
                have c30b0 : (x14_23.toList == ([] : List UInt8)) = true := beq_iff_eq.mpr c30
                have c30b1 : (x14_23.toList != ([] : List UInt8)) = false := bne_eq_false_iff_eq.mpr c30
                clear c30
                exact absurd (Option.some.inj H) (by rw [hr0_.out]; decide)
              rw [if_neg c30] at H
              have c30b0 : (x14_23.toList == ([] : List UInt8)) = false := beq_eq_false_iff_ne.mpr c30
              have c30b1 : (x14_23.toList != ([] : List UInt8)) = true := bne_iff_ne.mpr c30
              by_cases c31 : ((⟨#[97]⟩ : ByteArray) ++ t229).toList = ((⟨#[97]⟩ : ByteArray) ++ t230).toList
              · rw [if_pos c31] at H
                have c31b0 : (((⟨#[97]⟩ : ByteArray) ++ t229).toList == ((⟨#[97]⟩ : ByteArray) ++ t230).toList) = true := beq_iff_eq.mpr c31
                have c31b1 : (((⟨#[97]⟩ : ByteArray) ++ t229).toList != ((⟨#[97]⟩ : ByteArray) ++ t230).toList) = false := bne_eq_false_iff_eq.mpr c31
                clear c31
                by_cases c32 : ((x13_23.toList == x14_23.toList) == ((wrap64 (1 + t233)) == (wrap64 (1 + t234)))) = true
                rotate_left
                · rw [if_neg c32] at H
                  have c32b0 : ((x13_23.toList == x14_23.toList) == ((wrap64 (1 + t233)) == (wrap64 (1 + t234)))) = false := by simpa using c32
                  (try (have c32b1 : decide ((x13_23.toList == x14_23.toList) = ((wrap64 (1 + t233)) == (wrap64 (1 + t234)))) = false := by simpa using c32))
                  (try (have c32b2 : ((x13_23.toList == x14_23.toList) == ((wrap64 (1 + t233)) == (wrap64 (1 + t234)))) = false := by simpa using c32))
                  (try (have c32b3 : ¬ ((x13_23.toList == x14_23.toList) = ((wrap64 (1 + t233)) == (wrap64 (1 + t234)))) := by simpa using c32))
                  clear c32
                  exact absurd (Option.some.inj H) (by rw [hr0_.out]; decide)
                rw [if_pos c32] at H
                have c32b0 : ((x13_23.toList == x14_23.toList) == ((wrap64 (1 + t233)) == (wrap64 (1 + t234)))) = true := c32
                (try (have c32b1 : decide ((x13_23.toList == x14_23.toList) = ((wrap64 (1 + t233)) == (wrap64 (1 + t234)))) = true := by simpa using c32))
                (try (have c32b2 : ((x13_23.toList == x14_23.toList) == ((wrap64 (1 + t233)) == (wrap64 (1 + t234)))) = true := by simpa using c32))
                clear c32
                replace H := Option.bind_eq_some_iff.mp H
                obtain ⟨t237, A330, H⟩ := H
                replace H : (some ((x13_23.size : Int) == (wrap64 ((wrap64 ((((⟨#[97]⟩ : ByteArray) ++ t229).size : Int) + 1)) + (t237.size : Int))))) = some r := H
                have A33 := Aside0.mk A330
                clear A330
                obtain rfl := Option.some.inj H
                go_wp2_with (first | (go_at_call 19; (with_reducible refine (damperref1_Digits.calls kj23 (wrap64 (1 + t233)) t237 _ A33.out).mono ?_); rintro e w34 ⟨rfl, hb⟩; have n0_ := Aside0.mk (below_step (by repeat (first | (with_reducible first | exact HB.out | apply below_alloc | apply pw_below_drewN | apply below_drew1) | exact HB.out)) hb); clear HB; have HB := n0_; clear n0_; (try clear hb); (try clear hb2); (try clear hk); (try clear hi)))
                go_ret
                exact ⟨by first | rfl | (simp [errW_none, errW_some] <;> rfl) | (simp [*, errW_none, errW_some] <;> rfl), by repeat (first | (with_reducible first | exact HB.out | apply below_alloc | apply pw_below_drewN | apply below_drew1) | exact HB.out)⟩
              · rw [if_neg c31] at H
                have c31b0 : (((⟨#[97]⟩ : ByteArray) ++ t229).toList == ((⟨#[97]⟩ : ByteArray) ++ t230).toList) = false := beq_eq_false_iff_ne.mpr c31
                have c31b1 : (((⟨#[97]⟩ : ByteArray) ++ t229).toList != ((⟨#[97]⟩ : ByteArray) ++ t230).toList) = true := bne_iff_ne.mpr c31
                by_cases c35 : ((x13_23.toList == x14_23.toList) == false) = true
                rotate_left
                · rw [if_neg c35] at H
                  have c35b0 : ((x13_23.toList == x14_23.toList) == false) = false := by simpa using c35
                  (try (have c35b1 : decide ((x13_23.toList == x14_23.toList) = false) = false := by simpa using c35))
                  (try (have c35b2 : ((x13_23.toList == x14_23.toList) == false) = false := by simpa using c35))
                  (try (have c35b3 : ¬ ((x13_23.toList == x14_23.toList) = false) := by simpa using c35))
                  clear c35
                  exact absurd (Option.some.inj H) (by rw [hr0_.out]; decide)
                rw [if_pos c35] at H
                have c35b0 : ((x13_23.toList == x14_23.toList) == false) = true := c35
                (try (have c35b1 : decide ((x13_23.toList == x14_23.toList) = false) = true := by simpa using c35))
                (try (have c35b2 : ((x13_23.toList == x14_23.toList) == false) = true := by simpa using c35))
                clear c35
                replace H := Option.bind_eq_some_iff.mp H
                obtain ⟨t238, A360, H⟩ := H
                replace H : (some ((x13_23.size : Int) == (wrap64 ((wrap64 ((((⟨#[97]⟩ : ByteArray) ++ t229).size : Int) + 1)) + (t238.size : Int))))) = some r := H
                have A36 := Aside0.mk A360
                clear A360
                obtain rfl := Option.some.inj H
                go_wp2_with (first | (go_at_call 19; (with_reducible refine (damperref1_Digits.calls kj23 (wrap64 (1 + t233)) t238 _ A36.out).mono ?_); rintro e w37 ⟨rfl, hb⟩; have n0_ := Aside0.mk (below_step (by repeat (first | (with_reducible first | exact HB.out | apply below_alloc | apply pw_below_drewN | apply below_drew1) | exact HB.out)) hb); clear HB; have HB := n0_; clear n0_; (try clear hb); (try clear hb2); (try clear hk); (try clear hi)))
                go_ret
                exact ⟨by first | rfl | (simp [errW_none, errW_some] <;> rfl) | (simp [*, errW_none, errW_some] <;> rfl), by repeat (first | (with_reducible first | exact HB.out | apply below_alloc | apply pw_below_drewN | apply below_drew1) | exact HB.out)⟩
  · replace c6 := Bool.eq_false_iff.mpr c6
    subst c6
    have H1 : (some false) = some r := by rw [if_neg (show ¬ (false = true) by decide)] at H; exact H
    clear H
    have H := H1
    clear H1
    exact absurd (Option.some.inj H) (by rw [hr0_.out]; decide)

/-- THE ONE PURE STATEMENT of damperlaw1_LabelApart: yours. -/
def damperlaw1_LabelApart.Pure : Prop := ∀ (l0 : List Int) (l1 : List Int) (a2 : Int) (a3 : Int), (l0.length ≤ maxLen ∧ ∀ y_ ∈ l0, (Lit.int .i64 y_).wf = true) → (l1.length ≤ maxLen ∧ ∀ y_ ∈ l1, (Lit.int .i64 y_).wf = true) → ((Lit.int .i64 a2).wf = true) → ((Lit.int .i64 a3).wf = true) → ∃ k, damperlaw1_LabelApart.f k l0 l1 a2 a3 = some true
theorem damperlaw1_LabelApart.walk (P : damperlaw1_LabelApart.Pure) (A0 : Option Addr) (c0 : Nat) (l0 : List Int) (A1 : Option Addr) (c1 : Nat) (l1 : List Int) (a2 : Int) (a3 : Int) (w : World) (hLd_ : LaidW w) (w0 : l0.length ≤ maxLen ∧ ∀ y_ ∈ l0, (Lit.int .i64 y_).wf = true) (w1 : l1.length ≤ maxLen ∧ ∀ y_ ∈ l1, (Lit.int .i64 y_).wf = true) (w2 : (Lit.int .i64 a2).wf = true) (w3 : (Lit.int .i64 a3).wf = true) (hr0 : Kd.C (Kd.int .i64) w A0 l0.length l0) (hc0 : l0.length ≤ c0) (hr1 : Kd.C (Kd.int .i64) w A1 l1.length l1) (hc1 : l1.length ≤ c1) :
    Calls Tryd.prog 6 #[.slice A0 l0.length c0, .slice A1 l1.length c1, .int .i64 a2, .int .i64 a3] w fun e w' => e = .returned (.bool true) ∧ Below w.heap.size w w' := by
  obtain ⟨k, h⟩ := P l0 l1 a2 a3 w0 w1 w2 w3
  refine (damperlaw1_LabelApart.calls k A0 c0 l0 A1 c1 l1 a2 a3 true w ⟨hLd_⟩ hr0 hc0 hr1 hc1 ⟨rfl⟩ h).mono ?_
  rintro e w' ⟨rfl, hd⟩
  exact ⟨rfl, hd⟩

end Go.Proofs.YtgnnbnbmjifgfaaDoor.Ma
