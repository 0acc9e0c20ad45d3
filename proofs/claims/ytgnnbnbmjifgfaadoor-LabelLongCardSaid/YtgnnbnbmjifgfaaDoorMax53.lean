-- Written by a program of this session (wip/tools/myprint.py), in the form of the kit's print. Not trusted: Lean checks it.
import Derived.Test.YtgnnbnbmjifgfaaDoorMax0
import Derived.Test.YtgnnbnbmjifgfaaDoorMax4
import Derived.Test.YtgnnbnbmjifgfaaDoorMax5
import Derived.Test.YtgnnbnbmjifgfaaDoorMax20
import Derived.Test.YtgnnbnbmjifgfaaDoorMax39
import Derived.Test.YtgnnbnbmjifgfaaDoorMax40
namespace Go.Proofs.YtgnnbnbmjifgfaaDoor.Ma
open Go.RowKit Go.Proofs.YtgnnbnbmjifgfaaDoorW.PrintWords Go.Proofs.YtgnnbnbmjifgfaaDoorW.PrintLast Go.Proofs.YtgnnbnbmjifgfaaDoorW.PrintMore
attribute [local go_sem] max2_int min2_int max_two min_two max_three min_three max_four min_four   -- for this text's walks alone
set_option linter.unusedVariables false
set_option linter.unusedSimpArgs false

/-! ### damperlaw1_LabelLong: function 8 -/
mutual
def damperlaw1_LabelLong.j0 : Nat → Int → Int → ByteArray → Bool → Option (Bool)
  | 0, _, _, _, _ => none
  | k + 1, x1, x5, x6, x7 => (damperlaw1_within.f x1 999999).bind fun t264 => (damperlaw1_LabelLong.j1 k x1 x5 x6 x7 (wrap64 (1 + t264)))
def damperlaw1_LabelLong.j1 : Nat → Int → Int → ByteArray → Bool → Int → Option (Bool)
  | 0, _, _, _, _, _ => none
  | k + 1, x1, x5, x6, x7, x8 => (label_Name.f x6).bind fun t265 => (if x7 = true then (if (t265 == (decide (x5 ≤ 16))) = true then ((label_Tag.f x6).bind fun t266 => (if (t266 == (decide (x5 ≤ 8))) = true then ((label_Rev.f k x6 x8).bind fun t267 => (if ((t267.toList != ([] : List UInt8)) == (decide (x5 ≤ 16))) = true then ((damperlaw1_within.f x1 9).bind fun t268 => ((label_Rev.f k (⟨#[119, 101, 98]⟩ : ByteArray) (wrap64 (-t268))).bind fun t269 => (if t269.toList = ([] : List UInt8) then ((damperlaw1_within.f x1 9).bind fun t270 => ((label_Rev.f k (⟨#[119, 101, 98]⟩ : ByteArray) (wrap64 (1000000 + t270))).bind fun t271 => (damperlaw1_LabelLong.j2 k (t271.toList == ([] : List UInt8))))) else (damperlaw1_LabelLong.j2 k false)))) else (damperlaw1_LabelLong.j2 k false))) else (damperlaw1_LabelLong.j2 k false))) else (damperlaw1_LabelLong.j2 k false)) else (if (t265 == false) = true then ((label_Tag.f x6).bind fun t272 => (if (t272 == false) = true then ((label_Rev.f k x6 x8).bind fun t273 => (if ((t273.toList != ([] : List UInt8)) == false) = true then ((damperlaw1_within.f x1 9).bind fun t274 => ((label_Rev.f k (⟨#[119, 101, 98]⟩ : ByteArray) (wrap64 (-t274))).bind fun t275 => (if t275.toList = ([] : List UInt8) then ((damperlaw1_within.f x1 9).bind fun t276 => ((label_Rev.f k (⟨#[119, 101, 98]⟩ : ByteArray) (wrap64 (1000000 + t276))).bind fun t277 => (damperlaw1_LabelLong.j2 k (t277.toList == ([] : List UInt8))))) else (damperlaw1_LabelLong.j2 k false)))) else (damperlaw1_LabelLong.j2 k false))) else (damperlaw1_LabelLong.j2 k false))) else (damperlaw1_LabelLong.j2 k false)))
def damperlaw1_LabelLong.j2 : Nat → Bool → Option (Bool)
  | 0, _ => none
  | k + 1, x4 => some x4
end
def damperlaw1_LabelLong.f (k : Nat) (a0 : Int) (a1 : Int) : Option (Bool) := (damperlaw1_known.f k).bind fun t262 => (if t262 = true then ((damperlaw1_within.f a0 30).bind fun t263 => (if 0 ≤ t263 then (if t263 ≤ 30 then (if t263 > 0 then (if t263 = 9 then (damperlaw1_LabelLong.j0 k a1 t263 ((⟨#[97, 98, 99, 100, 101, 102, 103, 104, 45, 97, 98, 99, 100, 101, 102, 103, 104, 49, 45, 50, 51, 52, 53, 54, 55, 56, 57, 48, 49, 50]⟩ : ByteArray).extract 0 (t263 : Int).toNat) false) else (damperlaw1_LabelLong.j0 k a1 t263 ((⟨#[97, 98, 99, 100, 101, 102, 103, 104, 45, 97, 98, 99, 100, 101, 102, 103, 104, 49, 45, 50, 51, 52, 53, 54, 55, 56, 57, 48, 49, 50]⟩ : ByteArray).extract 0 (t263 : Int).toNat) (t263 != 19))) else (damperlaw1_LabelLong.j0 k a1 t263 ((⟨#[97, 98, 99, 100, 101, 102, 103, 104, 45, 97, 98, 99, 100, 101, 102, 103, 104, 49, 45, 50, 51, 52, 53, 54, 55, 56, 57, 48, 49, 50]⟩ : ByteArray).extract 0 (t263 : Int).toNat) false)) else (none)) else (none))) else (some false))
theorem damperlaw1_LabelLong.mono_l : ∀ k, (∀ y0 y1 y2 y3, LeO (damperlaw1_LabelLong.j0 k y0 y1 y2 y3) (damperlaw1_LabelLong.j0 (k + 1) y0 y1 y2 y3)) ∧ (∀ y0 y1 y2 y3 y4, LeO (damperlaw1_LabelLong.j1 k y0 y1 y2 y3 y4) (damperlaw1_LabelLong.j1 (k + 1) y0 y1 y2 y3 y4)) ∧ (∀ y0, LeO (damperlaw1_LabelLong.j2 k y0) (damperlaw1_LabelLong.j2 (k + 1) y0))
  | 0 => ⟨fun _ _ _ _ r h => by simp [damperlaw1_LabelLong.j0] at h, fun _ _ _ _ _ r h => by simp [damperlaw1_LabelLong.j1] at h, fun _ r h => by simp [damperlaw1_LabelLong.j2] at h⟩
  | k + 1 => by
    obtain ⟨ih0, ih1, ih2⟩ := damperlaw1_LabelLong.mono_l k
    refine ⟨?_, ?_, ?_⟩
    · intro y0 y1 y2 y3
      unfold damperlaw1_LabelLong.j0
      repeat' first
      | (with_reducible exact ih0 _ _ _ _)
      | (with_reducible exact ih1 _ _ _ _ _)
      | (with_reducible exact ih2 _)
      | (with_reducible exact damperlaw1_known.mono _)
      | (with_reducible exact label_Rev.mono _ _ _)
      | (with_reducible exact LeO.refl _)
      | (with_reducible exact LeO.none _)
      | (with_reducible refine LeO.ite ?_ ?_)
      | (with_reducible refine LeO.bind ?_ (fun _ => ?_))
      | exact ih0 _ _ _ _
      | exact ih1 _ _ _ _ _
      | exact ih2 _
      | exact damperlaw1_known.mono _
      | exact label_Rev.mono _ _ _
      | exact LeO.none _
      | refine LeO.ite ?_ ?_
      | refine LeO.bind ?_ (fun _ => ?_)
    · intro y0 y1 y2 y3 y4
      unfold damperlaw1_LabelLong.j1
      repeat' first
      | (with_reducible exact ih0 _ _ _ _)
      | (with_reducible exact ih1 _ _ _ _ _)
      | (with_reducible exact ih2 _)
      | (with_reducible exact damperlaw1_known.mono _)
      | (with_reducible exact label_Rev.mono _ _ _)
      | (with_reducible exact LeO.refl _)
      | (with_reducible exact LeO.none _)
      | (with_reducible refine LeO.ite ?_ ?_)
      | (with_reducible refine LeO.bind ?_ (fun _ => ?_))
      | exact ih0 _ _ _ _
      | exact ih1 _ _ _ _ _
      | exact ih2 _
      | exact damperlaw1_known.mono _
      | exact label_Rev.mono _ _ _
      | exact LeO.none _
      | refine LeO.ite ?_ ?_
      | refine LeO.bind ?_ (fun _ => ?_)
    · intro y0
      unfold damperlaw1_LabelLong.j2
      repeat' first
      | (with_reducible exact ih0 _ _ _ _)
      | (with_reducible exact ih1 _ _ _ _ _)
      | (with_reducible exact ih2 _)
      | (with_reducible exact damperlaw1_known.mono _)
      | (with_reducible exact label_Rev.mono _ _ _)
      | (with_reducible exact LeO.refl _)
      | (with_reducible exact LeO.none _)
      | (with_reducible refine LeO.ite ?_ ?_)
      | (with_reducible refine LeO.bind ?_ (fun _ => ?_))
      | exact ih0 _ _ _ _
      | exact ih1 _ _ _ _ _
      | exact ih2 _
      | exact damperlaw1_known.mono _
      | exact label_Rev.mono _ _ _
      | exact LeO.none _
      | refine LeO.ite ?_ ?_
      | refine LeO.bind ?_ (fun _ => ?_)
theorem damperlaw1_LabelLong.mono : ∀ a0 a1 k, LeO (damperlaw1_LabelLong.f k a0 a1) (damperlaw1_LabelLong.f (k + 1) a0 a1) := by
  intro a0 a1 k
  obtain ⟨ih0, ih1, ih2⟩ := damperlaw1_LabelLong.mono_l k
  unfold damperlaw1_LabelLong.f
  repeat' first
      | (with_reducible exact ih0 _ _ _ _)
      | (with_reducible exact ih1 _ _ _ _ _)
      | (with_reducible exact ih2 _)
      | (with_reducible exact damperlaw1_known.mono _)
      | (with_reducible exact label_Rev.mono _ _ _)
      | (with_reducible exact LeO.refl _)
      | (with_reducible exact LeO.none _)
      | (with_reducible refine LeO.ite ?_ ?_)
      | (with_reducible refine LeO.bind ?_ (fun _ => ?_))
      | exact ih0 _ _ _ _
      | exact ih1 _ _ _ _ _
      | exact ih2 _
      | exact damperlaw1_known.mono _
      | exact label_Rev.mono _ _ _
      | exact LeO.none _
      | refine LeO.ite ?_ ?_
      | refine LeO.bind ?_ (fun _ => ?_)
set_option maxHeartbeats 8000000 in
set_option maxRecDepth 100000 in
theorem damperlaw1_LabelLong.calls (k : Nat) (a0 : Int) (a1 : Int) (r : Bool) (w : World) (hLd_ : Aside0 (LaidW w)) (hr0_ : Aside0 (r = true)) (h : damperlaw1_LabelLong.f k a0 a1 = some r) :
    Calls Tryd.prog 8 #[.int .i64 a0, .int .i64 a1] w fun e w' => e = .returned (.bool r) ∧ Below w.heap.size w w' := by
  have HB := Aside0.mk (Below.refl w.heap.size w)
  have H : ((damperlaw1_known.f k).bind fun t262 => (if t262 = true then ((damperlaw1_within.f a0 30).bind fun t263 => (if 0 ≤ t263 then (if t263 ≤ 30 then (if t263 > 0 then (if t263 = 9 then (damperlaw1_LabelLong.j0 k a1 t263 ((⟨#[97, 98, 99, 100, 101, 102, 103, 104, 45, 97, 98, 99, 100, 101, 102, 103, 104, 49, 45, 50, 51, 52, 53, 54, 55, 56, 57, 48, 49, 50]⟩ : ByteArray).extract 0 (t263 : Int).toNat) false) else (damperlaw1_LabelLong.j0 k a1 t263 ((⟨#[97, 98, 99, 100, 101, 102, 103, 104, 45, 97, 98, 99, 100, 101, 102, 103, 104, 49, 45, 50, 51, 52, 53, 54, 55, 56, 57, 48, 49, 50]⟩ : ByteArray).extract 0 (t263 : Int).toNat) (t263 != 19))) else (damperlaw1_LabelLong.j0 k a1 t263 ((⟨#[97, 98, 99, 100, 101, 102, 103, 104, 45, 97, 98, 99, 100, 101, 102, 103, 104, 49, 45, 50, 51, 52, 53, 54, 55, 56, 57, 48, 49, 50]⟩ : ByteArray).extract 0 (t263 : Int).toNat) false)) else (none)) else (none))) else (some false))) = some r := h
  clear h
  replace H := Option.bind_eq_some_iff.mp H
  obtain ⟨t262, A30, H⟩ := H
  replace H : (if t262 = true then ((damperlaw1_within.f a0 30).bind fun t263 => (if 0 ≤ t263 then (if t263 ≤ 30 then (if t263 > 0 then (if t263 = 9 then (damperlaw1_LabelLong.j0 k a1 t263 ((⟨#[97, 98, 99, 100, 101, 102, 103, 104, 45, 97, 98, 99, 100, 101, 102, 103, 104, 49, 45, 50, 51, 52, 53, 54, 55, 56, 57, 48, 49, 50]⟩ : ByteArray).extract 0 (t263 : Int).toNat) false) else (damperlaw1_LabelLong.j0 k a1 t263 ((⟨#[97, 98, 99, 100, 101, 102, 103, 104, 45, 97, 98, 99, 100, 101, 102, 103, 104, 49, 45, 50, 51, 52, 53, 54, 55, 56, 57, 48, 49, 50]⟩ : ByteArray).extract 0 (t263 : Int).toNat) (t263 != 19))) else (damperlaw1_LabelLong.j0 k a1 t263 ((⟨#[97, 98, 99, 100, 101, 102, 103, 104, 45, 97, 98, 99, 100, 101, 102, 103, 104, 49, 45, 50, 51, 52, 53, 54, 55, 56, 57, 48, 49, 50]⟩ : ByteArray).extract 0 (t263 : Int).toNat) false)) else (none)) else (none))) else (some false)) = some r := H
  have A3 := Aside0.mk A30
  clear A30
  by_cases c4 : t262 = true
  · subst c4
    have H1 : ((damperlaw1_within.f a0 30).bind fun t263 => (if 0 ≤ t263 then (if t263 ≤ 30 then (if t263 > 0 then (if t263 = 9 then (damperlaw1_LabelLong.j0 k a1 t263 ((⟨#[97, 98, 99, 100, 101, 102, 103, 104, 45, 97, 98, 99, 100, 101, 102, 103, 104, 49, 45, 50, 51, 52, 53, 54, 55, 56, 57, 48, 49, 50]⟩ : ByteArray).extract 0 (t263 : Int).toNat) false) else (damperlaw1_LabelLong.j0 k a1 t263 ((⟨#[97, 98, 99, 100, 101, 102, 103, 104, 45, 97, 98, 99, 100, 101, 102, 103, 104, 49, 45, 50, 51, 52, 53, 54, 55, 56, 57, 48, 49, 50]⟩ : ByteArray).extract 0 (t263 : Int).toNat) (t263 != 19))) else (damperlaw1_LabelLong.j0 k a1 t263 ((⟨#[97, 98, 99, 100, 101, 102, 103, 104, 45, 97, 98, 99, 100, 101, 102, 103, 104, 49, 45, 50, 51, 52, 53, 54, 55, 56, 57, 48, 49, 50]⟩ : ByteArray).extract 0 (t263 : Int).toNat) false)) else (none)) else (none))) = some r := by rw [if_pos rfl] at H; exact H
    clear H
    have H := H1
    clear H1
    replace H := Option.bind_eq_some_iff.mp H
    obtain ⟨t263, A50, H⟩ := H
    replace H : (if 0 ≤ t263 then (if t263 ≤ 30 then (if t263 > 0 then (if t263 = 9 then (damperlaw1_LabelLong.j0 k a1 t263 ((⟨#[97, 98, 99, 100, 101, 102, 103, 104, 45, 97, 98, 99, 100, 101, 102, 103, 104, 49, 45, 50, 51, 52, 53, 54, 55, 56, 57, 48, 49, 50]⟩ : ByteArray).extract 0 (t263 : Int).toNat) false) else (damperlaw1_LabelLong.j0 k a1 t263 ((⟨#[97, 98, 99, 100, 101, 102, 103, 104, 45, 97, 98, 99, 100, 101, 102, 103, 104, 49, 45, 50, 51, 52, 53, 54, 55, 56, 57, 48, 49, 50]⟩ : ByteArray).extract 0 (t263 : Int).toNat) (t263 != 19))) else (damperlaw1_LabelLong.j0 k a1 t263 ((⟨#[97, 98, 99, 100, 101, 102, 103, 104, 45, 97, 98, 99, 100, 101, 102, 103, 104, 49, 45, 50, 51, 52, 53, 54, 55, 56, 57, 48, 49, 50]⟩ : ByteArray).extract 0 (t263 : Int).toNat) false)) else (none)) else (none)) = some r := H
    have A5 := Aside0.mk A50
    clear A50
    by_cases c6 : 0 ≤ t263
    rotate_left
    · rw [if_neg c6] at H
      exact absurd H (by simp)
    rw [if_pos c6] at H
    have c6b0 := eq_true c6
    have c6b1 : decide (0 ≤ t263) = true := decide_eq_true c6
    try have c6bm : max t263 0 = t263 := Int.max_eq_left c6
    clear c6
    by_cases c7 : t263 ≤ 30
    rotate_left
    · rw [if_neg c7] at H
      exact absurd H (by simp)
    rw [if_pos c7] at H
    have c7b0 := eq_true c7
    have c7b1 : decide (t263 ≤ 30) = true := decide_eq_true c7
    clear c7
    have HC8 := Aside0.mk H
    clear H
    go_enter Tryd.func8, Tryd.ntmps8
    go_upto_region 5 with (first | ((with_reducible refine gate_callee (f := 10) rfl ?_); refine goesL_ (some 9) rfl rfl Tryd.func10 (by kernel_rfl) rfl #[] rfl (by (try simp only [List.map_toArray, List.map_cons, List.map_nil]); first | done | rfl | (simp only [List.length_drop, List.length_take]; rfl)) ?_; (with_reducible refine (damperlaw1_known.calls k  true _ ?side1 A3.out).mono ?_); (case side1 => first | exact hLd_.out | exact hLd_ | exact ⟨LaidW.below hLd_.out (by repeat (first | (with_reducible first | exact HB.out | apply below_alloc | apply pw_below_drewN | apply below_drew1) | exact HB.out))⟩ | exact ⟨LaidW.below hLd_.out (by repeat (first | exact Below.refl _ _ | apply below_alloc | apply pw_below_drewN | apply below_drew1))⟩); rintro e w9 ⟨rfl, hb⟩; refine ⟨_, rfl, ?_⟩; have n0_ := Aside0.mk (below_step (by repeat (first | (with_reducible first | exact HB.out | apply below_alloc | apply pw_below_drewN | apply below_drew1) | exact HB.out)) hb); clear HB; have HB := n0_; clear n0_; (try clear hb); (try clear hb2); (try clear hk); (try clear hi)) | ((with_reducible refine gate_callee (f := 12) rfl ?_); refine goesL_ (some 12) rfl rfl Tryd.func12 (by kernel_rfl) rfl #[.int .i64 a0, .int .i64 30] rfl (by (try simp only [List.map_toArray, List.map_cons, List.map_nil]); first | done | rfl | (simp only [List.length_drop, List.length_take]; rfl)) ?_; (with_reducible refine (damperlaw1_within.calls a0 30 t263 _ A5.out).mono ?_); rintro e w' ⟨rfl, ⟨nd, rfl⟩⟩; refine ⟨_, rfl, ?_⟩))
    (try simp only [Act.put, List.setIfInBounds_toArray, List.set_cons_zero, List.set_cons_succ])
    go_cut [7] (fun v7 wc => ∃ (kq : Nat) (x7_7 : Bool), v7 = .bool x7_7 ∧ Aside0 (damperlaw1_LabelLong.j0 kq a1 t263 ((⟨#[97, 98, 99, 100, 101, 102, 103, 104, 45, 97, 98, 99, 100, 101, 102, 103, 104, 49, 45, 50, 51, 52, 53, 54, 55, 56, 57, 48, 49, 50]⟩ : ByteArray).extract 0 (t263 : Int).toNat) x7_7 = some r) ∧ Aside0 (kq ≤ k) ∧ Aside0 (Below w.heap.size w wc))
    case first =>
      have H := HC8.out
      clear HC8
      by_cases c10 : t263 > 0
      · rw [if_pos c10] at H
        have c10b0 : decide (0 < t263) = true := decide_eq_true c10
        clear c10
        (first | rw [c10b0] | (simp only [i64_w, i32_w]; rw [c10b0]) | skip)
        by_cases c11 : t263 = 9
        · rw [if_pos c11] at H
          have c11b0 : (t263 == 9) = true := beq_iff_eq.mpr c11
          have c11b1 : (t263 != 9) = false := bne_eq_false_iff_eq.mpr c11
          clear c11
          have H' := Aside0.mk H
          clear H
          go_wp2
          go_meet
          case rel => exact ⟨_, (false), (by first | rfl | (simp; done) | (simp [*]; done)), H', ⟨by first | omega | exact Nat.le_refl _⟩, ⟨by repeat (first | (with_reducible first | exact HB.out | apply below_alloc | apply pw_below_drewN | apply below_drew1) | exact HB.out)⟩⟩
        · rw [if_neg c11] at H
          have c11b0 : (t263 == 9) = false := beq_eq_false_iff_ne.mpr c11
          have c11b1 : (t263 != 9) = true := bne_iff_ne.mpr c11
          have H' := Aside0.mk H
          clear H
          go_wp2
          go_meet
          case rel => exact ⟨_, ((t263 != 19)), (by first | rfl | (simp; done) | (simp [*]; done)), H', ⟨by first | omega | exact Nat.le_refl _⟩, ⟨by repeat (first | (with_reducible first | exact HB.out | apply below_alloc | apply pw_below_drewN | apply below_drew1) | exact HB.out)⟩⟩
      · rw [if_neg c10] at H
        have c10b0 : decide (0 < t263) = false := decide_eq_false c10
        clear c10
        (first | rw [c10b0] | (simp only [i64_w, i32_w]; rw [c10b0]) | skip)
        have H' := Aside0.mk H
        clear H
        go_wp2
        go_meet
        case rel => exact ⟨_, (false), (by first | rfl | (simp; done) | (simp [*]; done)), H', ⟨by first | omega | exact Nat.le_refl _⟩, ⟨by repeat (first | (with_reducible first | exact HB.out | apply below_alloc | apply pw_below_drewN | apply below_drew1) | exact HB.out)⟩⟩
    case rest =>
      clear HC8
      try clear c1
      try clear p2
      try clear c4
      try clear c6
      try clear c6b0
      try clear c6b1
      try clear c7
      try clear c7b0
      try clear c7b1
      try clear c8
      try clear c10
      try clear c10b0
      try clear c11
      try clear c11b0
      try clear c11b1
      obtain ⟨kq, x7_7, rfl, HA, HJ7, HB⟩ := hcut
      cases kq with
      | zero => exact absurd HA.out (by simp [damperlaw1_LabelLong.j0])
      | succ kj7 =>
        have H := HA.out
        clear HA
        simp only [damperlaw1_LabelLong.j0] at H
        have HC12 := Aside0.mk H
        clear H
        go_upto_region 6 with (fail)
        go_cut [8] (fun v8 wc => ∃ (kq : Nat) (x8_11 : Int), v8 = .int .i64 x8_11 ∧ Aside0 (damperlaw1_LabelLong.j1 kq a1 t263 ((⟨#[97, 98, 99, 100, 101, 102, 103, 104, 45, 97, 98, 99, 100, 101, 102, 103, 104, 49, 45, 50, 51, 52, 53, 54, 55, 56, 57, 48, 49, 50]⟩ : ByteArray).extract 0 (t263 : Int).toNat) x7_7 x8_11 = some r) ∧ Aside0 (kq ≤ kj7) ∧ Aside0 (Below w.heap.size w wc))
        case first =>
          have H := HC12.out
          clear HC12
          replace H := Option.bind_eq_some_iff.mp H
          obtain ⟨t264, A130, H⟩ := H
          replace H : (damperlaw1_LabelLong.j1 kj7 a1 t263 ((⟨#[97, 98, 99, 100, 101, 102, 103, 104, 45, 97, 98, 99, 100, 101, 102, 103, 104, 49, 45, 50, 51, 52, 53, 54, 55, 56, 57, 48, 49, 50]⟩ : ByteArray).extract 0 (t263 : Int).toNat) x7_7 (wrap64 (1 + t264))) = some r := H
          have A13 := Aside0.mk A130
          clear A130
          have H' := Aside0.mk H
          clear H
          go_wp2_with (first | ((with_reducible refine gate_callee (f := 12) rfl ?_); refine goesL_ (some 26) rfl rfl Tryd.func12 (by kernel_rfl) rfl #[.int .i64 a1, .int .i64 999999] rfl (by (try simp only [List.map_toArray, List.map_cons, List.map_nil]); first | done | rfl | (simp only [List.length_drop, List.length_take]; rfl)) ?_; (with_reducible refine (damperlaw1_within.calls a1 999999 t264 _ A13.out).mono ?_); rintro e w' ⟨rfl, ⟨nd, rfl⟩⟩; refine ⟨_, rfl, ?_⟩))
          go_meet
          case rel => exact ⟨_, (wrap64 (1 + t264)), (by first | rfl | (simp; done) | (simp [*]; done)), H', ⟨by have := HJ7.out; first | omega | exact Nat.le_refl _⟩, ⟨by repeat (first | (with_reducible first | exact HB.out | apply below_alloc | apply pw_below_drewN | apply below_drew1) | exact HB.out)⟩⟩
        case rest =>
          clear HC12
          try clear c1
          try clear p2
          try clear c4
          try clear c6
          try clear c6b0
          try clear c6b1
          try clear p6
          try clear c7
          try clear c7b0
          try clear c7b1
          try clear c8
          try clear c10
          try clear c10b0
          try clear c11
          try clear c11b0
          try clear c11b1
          try clear c12
          try clear p2
          obtain ⟨kq, x8_11, rfl, HA, HJ11, HB⟩ := hcut
          cases kq with
          | zero => exact absurd HA.out (by simp [damperlaw1_LabelLong.j1])
          | succ kj11 =>
            have H := HA.out
            clear HA
            simp only [damperlaw1_LabelLong.j1] at H
            have HC14 := Aside0.mk H
            clear H
            go_upto_region 7 with (fail)
            go_cut [4] (fun v4 wc => ∃ (kq : Nat) (x4_13 : Bool), v4 = .bool x4_13 ∧ Aside0 (damperlaw1_LabelLong.j2 kq x4_13 = some r) ∧ Aside0 (kq ≤ kj11) ∧ Aside0 (Below w.heap.size w wc))
            case first =>
              have H := HC14.out
              clear HC14
              replace H := Option.bind_eq_some_iff.mp H
              obtain ⟨t265, A150, H⟩ := H
              replace H : (if x7_7 = true then (if (t265 == (decide (t263 ≤ 16))) = true then ((label_Tag.f ((⟨#[97, 98, 99, 100, 101, 102, 103, 104, 45, 97, 98, 99, 100, 101, 102, 103, 104, 49, 45, 50, 51, 52, 53, 54, 55, 56, 57, 48, 49, 50]⟩ : ByteArray).extract 0 (t263 : Int).toNat)).bind fun t266 => (if (t266 == (decide (t263 ≤ 8))) = true then ((label_Rev.f kj11 ((⟨#[97, 98, 99, 100, 101, 102, 103, 104, 45, 97, 98, 99, 100, 101, 102, 103, 104, 49, 45, 50, 51, 52, 53, 54, 55, 56, 57, 48, 49, 50]⟩ : ByteArray).extract 0 (t263 : Int).toNat) x8_11).bind fun t267 => (if ((t267.toList != ([] : List UInt8)) == (decide (t263 ≤ 16))) = true then ((damperlaw1_within.f a1 9).bind fun t268 => ((label_Rev.f kj11 (⟨#[119, 101, 98]⟩ : ByteArray) (wrap64 (-t268))).bind fun t269 => (if t269.toList = ([] : List UInt8) then ((damperlaw1_within.f a1 9).bind fun t270 => ((label_Rev.f kj11 (⟨#[119, 101, 98]⟩ : ByteArray) (wrap64 (1000000 + t270))).bind fun t271 => (damperlaw1_LabelLong.j2 kj11 (t271.toList == ([] : List UInt8))))) else (damperlaw1_LabelLong.j2 kj11 false)))) else (damperlaw1_LabelLong.j2 kj11 false))) else (damperlaw1_LabelLong.j2 kj11 false))) else (damperlaw1_LabelLong.j2 kj11 false)) else (if (t265 == false) = true then ((label_Tag.f ((⟨#[97, 98, 99, 100, 101, 102, 103, 104, 45, 97, 98, 99, 100, 101, 102, 103, 104, 49, 45, 50, 51, 52, 53, 54, 55, 56, 57, 48, 49, 50]⟩ : ByteArray).extract 0 (t263 : Int).toNat)).bind fun t272 => (if (t272 == false) = true then ((label_Rev.f kj11 ((⟨#[97, 98, 99, 100, 101, 102, 103, 104, 45, 97, 98, 99, 100, 101, 102, 103, 104, 49, 45, 50, 51, 52, 53, 54, 55, 56, 57, 48, 49, 50]⟩ : ByteArray).extract 0 (t263 : Int).toNat) x8_11).bind fun t273 => (if ((t273.toList != ([] : List UInt8)) == false) = true then ((damperlaw1_within.f a1 9).bind fun t274 => ((label_Rev.f kj11 (⟨#[119, 101, 98]⟩ : ByteArray) (wrap64 (-t274))).bind fun t275 => (if t275.toList = ([] : List UInt8) then ((damperlaw1_within.f a1 9).bind fun t276 => ((label_Rev.f kj11 (⟨#[119, 101, 98]⟩ : ByteArray) (wrap64 (1000000 + t276))).bind fun t277 => (damperlaw1_LabelLong.j2 kj11 (t277.toList == ([] : List UInt8))))) else (damperlaw1_LabelLong.j2 kj11 false)))) else (damperlaw1_LabelLong.j2 kj11 false))) else (damperlaw1_LabelLong.j2 kj11 false))) else (damperlaw1_LabelLong.j2 kj11 false))) = some r := H
              have A15 := Aside0.mk A150
              clear A150
              by_cases c16 : x7_7 = true
              · subst c16
                have H1 : (if (t265 == (decide (t263 ≤ 16))) = true then ((label_Tag.f ((⟨#[97, 98, 99, 100, 101, 102, 103, 104, 45, 97, 98, 99, 100, 101, 102, 103, 104, 49, 45, 50, 51, 52, 53, 54, 55, 56, 57, 48, 49, 50]⟩ : ByteArray).extract 0 (t263 : Int).toNat)).bind fun t266 => (if (t266 == (decide (t263 ≤ 8))) = true then ((label_Rev.f kj11 ((⟨#[97, 98, 99, 100, 101, 102, 103, 104, 45, 97, 98, 99, 100, 101, 102, 103, 104, 49, 45, 50, 51, 52, 53, 54, 55, 56, 57, 48, 49, 50]⟩ : ByteArray).extract 0 (t263 : Int).toNat) x8_11).bind fun t267 => (if ((t267.toList != ([] : List UInt8)) == (decide (t263 ≤ 16))) = true then ((damperlaw1_within.f a1 9).bind fun t268 => ((label_Rev.f kj11 (⟨#[119, 101, 98]⟩ : ByteArray) (wrap64 (-t268))).bind fun t269 => (if t269.toList = ([] : List UInt8) then ((damperlaw1_within.f a1 9).bind fun t270 => ((label_Rev.f kj11 (⟨#[119, 101, 98]⟩ : ByteArray) (wrap64 (1000000 + t270))).bind fun t271 => (damperlaw1_LabelLong.j2 kj11 (t271.toList == ([] : List UInt8))))) else (damperlaw1_LabelLong.j2 kj11 false)))) else (damperlaw1_LabelLong.j2 kj11 false))) else (damperlaw1_LabelLong.j2 kj11 false))) else (damperlaw1_LabelLong.j2 kj11 false)) = some r := by rw [if_pos rfl] at H; exact H
                clear H
                have H := H1
                clear H1
                by_cases c17 : (t265 == (decide (t263 ≤ 16))) = true
                · rw [if_pos c17] at H
                  have c17b0 : (t265 == (decide (t263 ≤ 16))) = true := c17
                  (try (have c17b1 : decide (t265 = (decide (t263 ≤ 16))) = true := by simpa using c17))
                  (try (have c17b2 : (t265 == (decide (t263 ≤ 16))) = true := by simpa using c17))
                  clear c17
                  (first | rw [c17b0] | (simp only [i64_w, i32_w]; rw [c17b0]) | skip)
                  replace H := Option.bind_eq_some_iff.mp H
                  obtain ⟨t266, A180, H⟩ := H
                  replace H : (if (t266 == (decide (t263 ≤ 8))) = true then ((label_Rev.f kj11 ((⟨#[97, 98, 99, 100, 101, 102, 103, 104, 45, 97, 98, 99, 100, 101, 102, 103, 104, 49, 45, 50, 51, 52, 53, 54, 55, 56, 57, 48, 49, 50]⟩ : ByteArray).extract 0 (t263 : Int).toNat) x8_11).bind fun t267 => (if ((t267.toList != ([] : List UInt8)) == (decide (t263 ≤ 16))) = true then ((damperlaw1_within.f a1 9).bind fun t268 => ((label_Rev.f kj11 (⟨#[119, 101, 98]⟩ : ByteArray) (wrap64 (-t268))).bind fun t269 => (if t269.toList = ([] : List UInt8) then ((damperlaw1_within.f a1 9).bind fun t270 => ((label_Rev.f kj11 (⟨#[119, 101, 98]⟩ : ByteArray) (wrap64 (1000000 + t270))).bind fun t271 => (damperlaw1_LabelLong.j2 kj11 (t271.toList == ([] : List UInt8))))) else (damperlaw1_LabelLong.j2 kj11 false)))) else (damperlaw1_LabelLong.j2 kj11 false))) else (damperlaw1_LabelLong.j2 kj11 false)) = some r := H
                  have A18 := Aside0.mk A180
                  clear A180
                  by_cases c19 : (t266 == (decide (t263 ≤ 8))) = true
                  · rw [if_pos c19] at H
                    have c19b0 : (t266 == (decide (t263 ≤ 8))) = true := c19
                    (try (have c19b1 : decide (t266 = (decide (t263 ≤ 8))) = true := by simpa using c19))
                    (try (have c19b2 : (t266 == (decide (t263 ≤ 8))) = true := by simpa using c19))
                    clear c19
                    replace H := Option.bind_eq_some_iff.mp H
                    obtain ⟨t267, A200, H⟩ := H
                    replace H : (if ((t267.toList != ([] : List UInt8)) == (decide (t263 ≤ 16))) = true then ((damperlaw1_within.f a1 9).bind fun t268 => ((label_Rev.f kj11 (⟨#[119, 101, 98]⟩ : ByteArray) (wrap64 (-t268))).bind fun t269 => (if t269.toList = ([] : List UInt8) then ((damperlaw1_within.f a1 9).bind fun t270 => ((label_Rev.f kj11 (⟨#[119, 101, 98]⟩ : ByteArray) (wrap64 (1000000 + t270))).bind fun t271 => (damperlaw1_LabelLong.j2 kj11 (t271.toList == ([] : List UInt8))))) else (damperlaw1_LabelLong.j2 kj11 false)))) else (damperlaw1_LabelLong.j2 kj11 false)) = some r := H
                    have A20 := Aside0.mk A200
                    clear A200
                    by_cases c21 : ((t267.toList != ([] : List UInt8)) == (decide (t263 ≤ 16))) = true
                    · rw [if_pos c21] at H
                      have c21b0 : ((t267.toList != ([] : List UInt8)) == (decide (t263 ≤ 16))) = true := c21
                      (try (have c21b1 : decide ((t267.toList != ([] : List UInt8)) = (decide (t263 ≤ 16))) = true := by simpa using c21))
                      (try (have c21b2 : ((t267.toList != ([] : List UInt8)) == (decide (t263 ≤ 16))) = true := by simpa using c21))
                      (try (have c21b9 : (t267.toList.isEmpty = !(decide (t263 ≤ 16))) = True := ie_t c21b0))
                      clear c21
                      replace H := Option.bind_eq_some_iff.mp H
                      obtain ⟨t268, A220, H⟩ := H
                      replace H : ((label_Rev.f kj11 (⟨#[119, 101, 98]⟩ : ByteArray) (wrap64 (-t268))).bind fun t269 => (if t269.toList = ([] : List UInt8) then ((damperlaw1_within.f a1 9).bind fun t270 => ((label_Rev.f kj11 (⟨#[119, 101, 98]⟩ : ByteArray) (wrap64 (1000000 + t270))).bind fun t271 => (damperlaw1_LabelLong.j2 kj11 (t271.toList == ([] : List UInt8))))) else (damperlaw1_LabelLong.j2 kj11 false))) = some r := H
                      have A22 := Aside0.mk A220
                      clear A220
                      replace H := Option.bind_eq_some_iff.mp H
                      obtain ⟨t269, A230, H⟩ := H
                      replace H : (if t269.toList = ([] : List UInt8) then ((damperlaw1_within.f a1 9).bind fun t270 => ((label_Rev.f kj11 (⟨#[119, 101, 98]⟩ : ByteArray) (wrap64 (1000000 + t270))).bind fun t271 => (damperlaw1_LabelLong.j2 kj11 (t271.toList == ([] : List UInt8))))) else (damperlaw1_LabelLong.j2 kj11 false)) = some r := H
                      have A23 := Aside0.mk A230
                      clear A230
                      by_cases c24 : t269.toList = ([] : List UInt8)
                      · rw [if_pos c24] at H
                        have c24b0 : (t269.toList == ([] : List UInt8)) = true := beq_iff_eq.mpr c24
                        have c24b1 : (t269.toList != ([] : List UInt8)) = false := bne_eq_false_iff_eq.mpr c24
                        clear c24
                        replace H := Option.bind_eq_some_iff.mp H
                        obtain ⟨t270, A250, H⟩ := H
                        replace H : ((label_Rev.f kj11 (⟨#[119, 101, 98]⟩ : ByteArray) (wrap64 (1000000 + t270))).bind fun t271 => (damperlaw1_LabelLong.j2 kj11 (t271.toList == ([] : List UInt8)))) = some r := H
                        have A25 := Aside0.mk A250
                        clear A250
                        replace H := Option.bind_eq_some_iff.mp H
                        obtain ⟨t271, A260, H⟩ := H
                        replace H : (damperlaw1_LabelLong.j2 kj11 (t271.toList == ([] : List UInt8))) = some r := H
                        have A26 := Aside0.mk A260
                        clear A260
                        have H' := Aside0.mk H
                        clear H
                        rw [show t270 = t268 from Option.some.inj (A25.out.symm.trans A22.out)] at A26
                        go_wp2_with (first | ((with_reducible refine gate_callee (f := 13) rfl ?_); refine goesL_ (some 29) rfl rfl Tryd.func13 (by kernel_rfl) rfl #[.string ((⟨#[97, 98, 99, 100, 101, 102, 103, 104, 45, 97, 98, 99, 100, 101, 102, 103, 104, 49, 45, 50, 51, 52, 53, 54, 55, 56, 57, 48, 49, 50]⟩ : ByteArray).extract 0 (t263 : Int).toNat)] rfl (by (try simp only [List.map_toArray, List.map_cons, List.map_nil]); first | done | rfl | (simp only [List.length_drop, List.length_take]; rfl)) ?_; (with_reducible refine (label_Name.calls ((⟨#[97, 98, 99, 100, 101, 102, 103, 104, 45, 97, 98, 99, 100, 101, 102, 103, 104, 49, 45, 50, 51, 52, 53, 54, 55, 56, 57, 48, 49, 50]⟩ : ByteArray).extract 0 (t263 : Int).toNat) t265 _ A15.out).mono ?_); rintro e w27 ⟨rfl, hb⟩; refine ⟨_, rfl, ?_⟩; have n0_ := Aside0.mk (below_step (by repeat (first | (with_reducible first | exact HB.out | apply below_alloc | apply pw_below_drewN | apply below_drew1) | exact HB.out)) hb); clear HB; have HB := n0_; clear n0_; (try clear hb); (try clear hb2); (try clear hk); (try clear hi)) | (go_at_call 15; (with_reducible refine (label_Tag.calls ((⟨#[97, 98, 99, 100, 101, 102, 103, 104, 45, 97, 98, 99, 100, 101, 102, 103, 104, 49, 45, 50, 51, 52, 53, 54, 55, 56, 57, 48, 49, 50]⟩ : ByteArray).extract 0 (t263 : Int).toNat) t266 _ A18.out).mono ?_); rintro e w28 ⟨rfl, hb⟩; have n0_ := Aside0.mk (below_step (by repeat (first | (with_reducible first | exact HB.out | apply below_alloc | apply pw_below_drewN | apply below_drew1) | exact HB.out)) hb); clear HB; have HB := n0_; clear n0_; (try clear hb); (try clear hb2); (try clear hk); (try clear hi)) | (go_at_call 17; (with_reducible refine (label_Rev.calls kj11 ((⟨#[97, 98, 99, 100, 101, 102, 103, 104, 45, 97, 98, 99, 100, 101, 102, 103, 104, 49, 45, 50, 51, 52, 53, 54, 55, 56, 57, 48, 49, 50]⟩ : ByteArray).extract 0 (t263 : Int).toNat) x8_11 t267 _ ?side1 A20.out).mono ?_); (case side1 => first | exact hLd_.out | exact hLd_ | exact ⟨LaidW.below hLd_.out (by repeat (first | (with_reducible first | exact HB.out | apply below_alloc | apply pw_below_drewN | apply below_drew1) | exact HB.out))⟩ | exact ⟨LaidW.below hLd_.out (by repeat (first | exact Below.refl _ _ | apply below_alloc | apply pw_below_drewN | apply below_drew1))⟩); rintro e w29 ⟨rfl, hb⟩; have n0_ := Aside0.mk (below_step (by repeat (first | (with_reducible first | exact HB.out | apply below_alloc | apply pw_below_drewN | apply below_drew1) | exact HB.out)) hb); clear HB; have HB := n0_; clear n0_; (try clear hb); (try clear hb2); (try clear hk); (try clear hi)) | (go_at_call 12; (with_reducible refine (damperlaw1_within.calls a1 9 t268 _ A22.out).mono ?_); rintro e w' ⟨rfl, ⟨nd, rfl⟩⟩) | (go_at_call 17; (with_reducible refine (label_Rev.calls kj11 (⟨#[119, 101, 98]⟩ : ByteArray) (wrap64 (-t268)) t269 _ ?side1 A23.out).mono ?_); (case side1 => first | exact hLd_.out | exact hLd_ | exact ⟨LaidW.below hLd_.out (by repeat (first | (with_reducible first | exact HB.out | apply below_alloc | apply pw_below_drewN | apply below_drew1) | exact HB.out))⟩ | exact ⟨LaidW.below hLd_.out (by repeat (first | exact Below.refl _ _ | apply below_alloc | apply pw_below_drewN | apply below_drew1))⟩); rintro e w30 ⟨rfl, hb⟩; have n0_ := Aside0.mk (below_step (by repeat (first | (with_reducible first | exact HB.out | apply below_alloc | apply pw_below_drewN | apply below_drew1) | exact HB.out)) hb); clear HB; have HB := n0_; clear n0_; (try clear hb); (try clear hb2); (try clear hk); (try clear hi)) | (go_at_call 12; (with_reducible refine (damperlaw1_within.calls a1 9 t270 _ A25.out).mono ?_); rintro e w' ⟨rfl, ⟨nd, rfl⟩⟩) | (go_at_call 17; (with_reducible refine (label_Rev.calls kj11 (⟨#[119, 101, 98]⟩ : ByteArray) (wrap64 (1000000 + t268)) t271 _ ?side1 A26.out).mono ?_); (case side1 => first | exact hLd_.out | exact hLd_ | exact ⟨LaidW.below hLd_.out (by repeat (first | (with_reducible first | exact HB.out | apply below_alloc | apply pw_below_drewN | apply below_drew1) | exact HB.out))⟩ | exact ⟨LaidW.below hLd_.out (by repeat (first | exact Below.refl _ _ | apply below_alloc | apply pw_below_drewN | apply below_drew1))⟩); rintro e w31 ⟨rfl, hb⟩; have n0_ := Aside0.mk (below_step (by repeat (first | (with_reducible first | exact HB.out | apply below_alloc | apply pw_below_drewN | apply below_drew1) | exact HB.out)) hb); clear HB; have HB := n0_; clear n0_; (try clear hb); (try clear hb2); (try clear hk); (try clear hi)))
                        go_meet
                        case rel => exact ⟨_, ((t271.toList == ([] : List UInt8))), (by first | rfl | (simp; done) | (simp [*]; done)), H', ⟨by have := HJ7.out; have := HJ11.out; first | omega | exact Nat.le_refl _⟩, ⟨by repeat (first | (with_reducible first | exact HB.out | apply below_alloc | apply pw_below_drewN | apply below_drew1) | exact HB.out)⟩⟩
                      · rw [if_neg c24] at H
                        have c24b0 : (t269.toList == ([] : List UInt8)) = false := beq_eq_false_iff_ne.mpr c24
                        have c24b1 : (t269.toList != ([] : List UInt8)) = true := bne_iff_ne.mpr c24
                        have H' := Aside0.mk H
                        clear H
                        go_wp2_with (first | ((with_reducible refine gate_callee (f := 13) rfl ?_); refine goesL_ (some 29) rfl rfl Tryd.func13 (by kernel_rfl) rfl #[.string ((⟨#[97, 98, 99, 100, 101, 102, 103, 104, 45, 97, 98, 99, 100, 101, 102, 103, 104, 49, 45, 50, 51, 52, 53, 54, 55, 56, 57, 48, 49, 50]⟩ : ByteArray).extract 0 (t263 : Int).toNat)] rfl (by (try simp only [List.map_toArray, List.map_cons, List.map_nil]); first | done | rfl | (simp only [List.length_drop, List.length_take]; rfl)) ?_; (with_reducible refine (label_Name.calls ((⟨#[97, 98, 99, 100, 101, 102, 103, 104, 45, 97, 98, 99, 100, 101, 102, 103, 104, 49, 45, 50, 51, 52, 53, 54, 55, 56, 57, 48, 49, 50]⟩ : ByteArray).extract 0 (t263 : Int).toNat) t265 _ A15.out).mono ?_); rintro e w32 ⟨rfl, hb⟩; refine ⟨_, rfl, ?_⟩; have n0_ := Aside0.mk (below_step (by repeat (first | (with_reducible first | exact HB.out | apply below_alloc | apply pw_below_drewN | apply below_drew1) | exact HB.out)) hb); clear HB; have HB := n0_; clear n0_; (try clear hb); (try clear hb2); (try clear hk); (try clear hi)) | (go_at_call 15; (with_reducible refine (label_Tag.calls ((⟨#[97, 98, 99, 100, 101, 102, 103, 104, 45, 97, 98, 99, 100, 101, 102, 103, 104, 49, 45, 50, 51, 52, 53, 54, 55, 56, 57, 48, 49, 50]⟩ : ByteArray).extract 0 (t263 : Int).toNat) t266 _ A18.out).mono ?_); rintro e w33 ⟨rfl, hb⟩; have n0_ := Aside0.mk (below_step (by repeat (first | (with_reducible first | exact HB.out | apply below_alloc | apply pw_below_drewN | apply below_drew1) | exact HB.out)) hb); clear HB; have HB := n0_; clear n0_; (try clear hb); (try clear hb2); (try clear hk); (try clear hi)) | (go_at_call 17; (with_reducible refine (label_Rev.calls kj11 ((⟨#[97, 98, 99, 100, 101, 102, 103, 104, 45, 97, 98, 99, 100, 101, 102, 103, 104, 49, 45, 50, 51, 52, 53, 54, 55, 56, 57, 48, 49, 50]⟩ : ByteArray).extract 0 (t263 : Int).toNat) x8_11 t267 _ ?side1 A20.out).mono ?_); (case side1 => first | exact hLd_.out | exact hLd_ | exact ⟨LaidW.below hLd_.out (by repeat (first | (with_reducible first | exact HB.out | apply below_alloc | apply pw_below_drewN | apply below_drew1) | exact HB.out))⟩ | exact ⟨LaidW.below hLd_.out (by repeat (first | exact Below.refl _ _ | apply below_alloc | apply pw_below_drewN | apply below_drew1))⟩); rintro e w34 ⟨rfl, hb⟩; have n0_ := Aside0.mk (below_step (by repeat (first | (with_reducible first | exact HB.out | apply below_alloc | apply pw_below_drewN | apply below_drew1) | exact HB.out)) hb); clear HB; have HB := n0_; clear n0_; (try clear hb); (try clear hb2); (try clear hk); (try clear hi)) | (go_at_call 12; (with_reducible refine (damperlaw1_within.calls a1 9 t268 _ A22.out).mono ?_); rintro e w' ⟨rfl, ⟨nd, rfl⟩⟩) | (go_at_call 17; (with_reducible refine (label_Rev.calls kj11 (⟨#[119, 101, 98]⟩ : ByteArray) (wrap64 (-t268)) t269 _ ?side1 A23.out).mono ?_); (case side1 => first | exact hLd_.out | exact hLd_ | exact ⟨LaidW.below hLd_.out (by repeat (first | (with_reducible first | exact HB.out | apply below_alloc | apply pw_below_drewN | apply below_drew1) | exact HB.out))⟩ | exact ⟨LaidW.below hLd_.out (by repeat (first | exact Below.refl _ _ | apply below_alloc | apply pw_below_drewN | apply below_drew1))⟩); rintro e w35 ⟨rfl, hb⟩; have n0_ := Aside0.mk (below_step (by repeat (first | (with_reducible first | exact HB.out | apply below_alloc | apply pw_below_drewN | apply below_drew1) | exact HB.out)) hb); clear HB; have HB := n0_; clear n0_; (try clear hb); (try clear hb2); (try clear hk); (try clear hi)))
                        go_meet
                        case rel => exact ⟨_, (false), (by first | rfl | (simp; done) | (simp [*]; done)), H', ⟨by have := HJ7.out; have := HJ11.out; first | omega | exact Nat.le_refl _⟩, ⟨by repeat (first | (with_reducible first | exact HB.out | apply below_alloc | apply pw_below_drewN | apply below_drew1) | exact HB.out)⟩⟩
                    · rw [if_neg c21] at H
                      have c21b0 : ((t267.toList != ([] : List UInt8)) == (decide (t263 ≤ 16))) = false := by simpa using c21
                      (try (have c21b1 : decide ((t267.toList != ([] : List UInt8)) = (decide (t263 ≤ 16))) = false := by simpa using c21))
                      (try (have c21b2 : ((t267.toList != ([] : List UInt8)) == (decide (t263 ≤ 16))) = false := by simpa using c21))
                      (try (have c21b3 : ¬ ((t267.toList != ([] : List UInt8)) = (decide (t263 ≤ 16))) := by simpa using c21))
                      (try (have c21b9 : (t267.toList.isEmpty = !(decide (t263 ≤ 16))) = False := ie_f c21b0))
                      clear c21
                      have H' := Aside0.mk H
                      clear H
                      go_wp2_with (first | ((with_reducible refine gate_callee (f := 13) rfl ?_); refine goesL_ (some 29) rfl rfl Tryd.func13 (by kernel_rfl) rfl #[.string ((⟨#[97, 98, 99, 100, 101, 102, 103, 104, 45, 97, 98, 99, 100, 101, 102, 103, 104, 49, 45, 50, 51, 52, 53, 54, 55, 56, 57, 48, 49, 50]⟩ : ByteArray).extract 0 (t263 : Int).toNat)] rfl (by (try simp only [List.map_toArray, List.map_cons, List.map_nil]); first | done | rfl | (simp only [List.length_drop, List.length_take]; rfl)) ?_; (with_reducible refine (label_Name.calls ((⟨#[97, 98, 99, 100, 101, 102, 103, 104, 45, 97, 98, 99, 100, 101, 102, 103, 104, 49, 45, 50, 51, 52, 53, 54, 55, 56, 57, 48, 49, 50]⟩ : ByteArray).extract 0 (t263 : Int).toNat) t265 _ A15.out).mono ?_); rintro e w36 ⟨rfl, hb⟩; refine ⟨_, rfl, ?_⟩; have n0_ := Aside0.mk (below_step (by repeat (first | (with_reducible first | exact HB.out | apply below_alloc | apply pw_below_drewN | apply below_drew1) | exact HB.out)) hb); clear HB; have HB := n0_; clear n0_; (try clear hb); (try clear hb2); (try clear hk); (try clear hi)) | (go_at_call 15; (with_reducible refine (label_Tag.calls ((⟨#[97, 98, 99, 100, 101, 102, 103, 104, 45, 97, 98, 99, 100, 101, 102, 103, 104, 49, 45, 50, 51, 52, 53, 54, 55, 56, 57, 48, 49, 50]⟩ : ByteArray).extract 0 (t263 : Int).toNat) t266 _ A18.out).mono ?_); rintro e w37 ⟨rfl, hb⟩; have n0_ := Aside0.mk (below_step (by repeat (first | (with_reducible first | exact HB.out | apply below_alloc | apply pw_below_drewN | apply below_drew1) | exact HB.out)) hb); clear HB; have HB := n0_; clear n0_; (try clear hb); (try clear hb2); (try clear hk); (try clear hi)) | (go_at_call 17; (with_reducible refine (label_Rev.calls kj11 ((⟨#[97, 98, 99, 100, 101, 102, 103, 104, 45, 97, 98, 99, 100, 101, 102, 103, 104, 49, 45, 50, 51, 52, 53, 54, 55, 56, 57, 48, 49, 50]⟩ : ByteArray).extract 0 (t263 : Int).toNat) x8_11 t267 _ ?side1 A20.out).mono ?_); (case side1 => first | exact hLd_.out | exact hLd_ | exact ⟨LaidW.below hLd_.out (by repeat (first | (with_reducible first | exact HB.out | apply below_alloc | apply pw_below_drewN | apply below_drew1) | exact HB.out))⟩ | exact ⟨LaidW.below hLd_.out (by repeat (first | exact Below.refl _ _ | apply below_alloc | apply pw_below_drewN | apply below_drew1))⟩); rintro e w38 ⟨rfl, hb⟩; have n0_ := Aside0.mk (below_step (by repeat (first | (with_reducible first | exact HB.out | apply below_alloc | apply pw_below_drewN | apply below_drew1) | exact HB.out)) hb); clear HB; have HB := n0_; clear n0_; (try clear hb); (try clear hb2); (try clear hk); (try clear hi)))
                      go_meet
                      case rel => exact ⟨_, (false), (by first | rfl | (simp; done) | (simp [*]; done)), H', ⟨by have := HJ7.out; have := HJ11.out; first | omega | exact Nat.le_refl _⟩, ⟨by repeat (first | (with_reducible first | exact HB.out | apply below_alloc | apply pw_below_drewN | apply below_drew1) | exact HB.out)⟩⟩
                  · rw [if_neg c19] at H
                    have c19b0 : (t266 == (decide (t263 ≤ 8))) = false := by simpa using c19
                    (try (have c19b1 : decide (t266 = (decide (t263 ≤ 8))) = false := by simpa using c19))
                    (try (have c19b2 : (t266 == (decide (t263 ≤ 8))) = false := by simpa using c19))
                    (try (have c19b3 : ¬ (t266 = (decide (t263 ≤ 8))) := by simpa using c19))
                    clear c19
                    have H' := Aside0.mk H
                    clear H
                    go_wp2_with (first | ((with_reducible refine gate_callee (f := 13) rfl ?_); refine goesL_ (some 29) rfl rfl Tryd.func13 (by kernel_rfl) rfl #[.string ((⟨#[97, 98, 99, 100, 101, 102, 103, 104, 45, 97, 98, 99, 100, 101, 102, 103, 104, 49, 45, 50, 51, 52, 53, 54, 55, 56, 57, 48, 49, 50]⟩ : ByteArray).extract 0 (t263 : Int).toNat)] rfl (by (try simp only [List.map_toArray, List.map_cons, List.map_nil]); first | done | rfl | (simp only [List.length_drop, List.length_take]; rfl)) ?_; (with_reducible refine (label_Name.calls ((⟨#[97, 98, 99, 100, 101, 102, 103, 104, 45, 97, 98, 99, 100, 101, 102, 103, 104, 49, 45, 50, 51, 52, 53, 54, 55, 56, 57, 48, 49, 50]⟩ : ByteArray).extract 0 (t263 : Int).toNat) t265 _ A15.out).mono ?_); rintro e w39 ⟨rfl, hb⟩; refine ⟨_, rfl, ?_⟩; have n0_ := Aside0.mk (below_step (by repeat (first | (with_reducible first | exact HB.out | apply below_alloc | apply pw_below_drewN | apply below_drew1) | exact HB.out)) hb); clear HB; have HB := n0_; clear n0_; (try clear hb); (try clear hb2); (try clear hk); (try clear hi)) | (go_at_call 15; (with_reducible refine (label_Tag.calls ((⟨#[97, 98, 99, 100, 101, 102, 103, 104, 45, 97, 98, 99, 100, 101, 102, 103, 104, 49, 45, 50, 51, 52, 53, 54, 55, 56, 57, 48, 49, 50]⟩ : ByteArray).extract 0 (t263 : Int).toNat) t266 _ A18.out).mono ?_); rintro e w40 ⟨rfl, hb⟩; have n0_ := Aside0.mk (below_step (by repeat (first | (with_reducible first | exact HB.out | apply below_alloc | apply pw_below_drewN | apply below_drew1) | exact HB.out)) hb); clear HB; have HB := n0_; clear n0_; (try clear hb); (try clear hb2); (try clear hk); (try clear hi)))
                    go_meet
                    case rel => exact ⟨_, (false), (by first | rfl | (simp; done) | (simp [*]; done)), H', ⟨by have := HJ7.out; have := HJ11.out; first | omega | exact Nat.le_refl _⟩, ⟨by repeat (first | (with_reducible first | exact HB.out | apply below_alloc | apply pw_below_drewN | apply below_drew1) | exact HB.out)⟩⟩
                · rw [if_neg c17] at H
                  have c17b0 : (t265 == (decide (t263 ≤ 16))) = false := by simpa using c17
                  (try (have c17b1 : decide (t265 = (decide (t263 ≤ 16))) = false := by simpa using c17))
                  (try (have c17b2 : (t265 == (decide (t263 ≤ 16))) = false := by simpa using c17))
                  (try (have c17b3 : ¬ (t265 = (decide (t263 ≤ 16))) := by simpa using c17))
                  clear c17
                  (first | rw [c17b0] | (simp only [i64_w, i32_w]; rw [c17b0]) | skip)
                  have H' := Aside0.mk H
                  clear H
                  go_wp2_with (first | ((with_reducible refine gate_callee (f := 13) rfl ?_); refine goesL_ (some 29) rfl rfl Tryd.func13 (by kernel_rfl) rfl #[.string ((⟨#[97, 98, 99, 100, 101, 102, 103, 104, 45, 97, 98, 99, 100, 101, 102, 103, 104, 49, 45, 50, 51, 52, 53, 54, 55, 56, 57, 48, 49, 50]⟩ : ByteArray).extract 0 (t263 : Int).toNat)] rfl (by (try simp only [List.map_toArray, List.map_cons, List.map_nil]); first | done | rfl | (simp only [List.length_drop, List.length_take]; rfl)) ?_; (with_reducible refine (label_Name.calls ((⟨#[97, 98, 99, 100, 101, 102, 103, 104, 45, 97, 98, 99, 100, 101, 102, 103, 104, 49, 45, 50, 51, 52, 53, 54, 55, 56, 57, 48, 49, 50]⟩ : ByteArray).extract 0 (t263 : Int).toNat) t265 _ A15.out).mono ?_); rintro e w41 ⟨rfl, hb⟩; refine ⟨_, rfl, ?_⟩; have n0_ := Aside0.mk (below_step (by repeat (first | (with_reducible first | exact HB.out | apply below_alloc | apply pw_below_drewN | apply below_drew1) | exact HB.out)) hb); clear HB; have HB := n0_; clear n0_; (try clear hb); (try clear hb2); (try clear hk); (try clear hi)))
                  go_meet
                  case rel => exact ⟨_, (false), (by first | rfl | (simp; done) | (simp [*]; done)), H', ⟨by have := HJ7.out; have := HJ11.out; first | omega | exact Nat.le_refl _⟩, ⟨by repeat (first | (with_reducible first | exact HB.out | apply below_alloc | apply pw_below_drewN | apply below_drew1) | exact HB.out)⟩⟩
              · replace c16 := Bool.eq_false_iff.mpr c16
                subst c16
                have H1 : (if (t265 == false) = true then ((label_Tag.f ((⟨#[97, 98, 99, 100, 101, 102, 103, 104, 45, 97, 98, 99, 100, 101, 102, 103, 104, 49, 45, 50, 51, 52, 53, 54, 55, 56, 57, 48, 49, 50]⟩ : ByteArray).extract 0 (t263 : Int).toNat)).bind fun t272 => (if (t272 == false) = true then ((label_Rev.f kj11 ((⟨#[97, 98, 99, 100, 101, 102, 103, 104, 45, 97, 98, 99, 100, 101, 102, 103, 104, 49, 45, 50, 51, 52, 53, 54, 55, 56, 57, 48, 49, 50]⟩ : ByteArray).extract 0 (t263 : Int).toNat) x8_11).bind fun t273 => (if ((t273.toList != ([] : List UInt8)) == false) = true then ((damperlaw1_within.f a1 9).bind fun t274 => ((label_Rev.f kj11 (⟨#[119, 101, 98]⟩ : ByteArray) (wrap64 (-t274))).bind fun t275 => (if t275.toList = ([] : List UInt8) then ((damperlaw1_within.f a1 9).bind fun t276 => ((label_Rev.f kj11 (⟨#[119, 101, 98]⟩ : ByteArray) (wrap64 (1000000 + t276))).bind fun t277 => (damperlaw1_LabelLong.j2 kj11 (t277.toList == ([] : List UInt8))))) else (damperlaw1_LabelLong.j2 kj11 false)))) else (damperlaw1_LabelLong.j2 kj11 false))) else (damperlaw1_LabelLong.j2 kj11 false))) else (damperlaw1_LabelLong.j2 kj11 false)) = some r := by rw [if_neg (show ¬ (false = true) by decide)] at H; exact H
                clear H
                have H := H1
                clear H1
                by_cases c42 : (t265 == false) = true
                · rw [if_pos c42] at H
                  have c42b0 : (t265 == false) = true := c42
                  (try (have c42b1 : decide (t265 = false) = true := by simpa using c42))
                  (try (have c42b2 : (t265 == false) = true := by simpa using c42))
                  clear c42
                  replace H := Option.bind_eq_some_iff.mp H
                  obtain ⟨t272, A430, H⟩ := H
                  replace H : (if (t272 == false) = true then ((label_Rev.f kj11 ((⟨#[97, 98, 99, 100, 101, 102, 103, 104, 45, 97, 98, 99, 100, 101, 102, 103, 104, 49, 45, 50, 51, 52, 53, 54, 55, 56, 57, 48, 49, 50]⟩ : ByteArray).extract 0 (t263 : Int).toNat) x8_11).bind fun t273 => (if ((t273.toList != ([] : List UInt8)) == false) = true then ((damperlaw1_within.f a1 9).bind fun t274 => ((label_Rev.f kj11 (⟨#[119, 101, 98]⟩ : ByteArray) (wrap64 (-t274))).bind fun t275 => (if t275.toList = ([] : List UInt8) then ((damperlaw1_within.f a1 9).bind fun t276 => ((label_Rev.f kj11 (⟨#[119, 101, 98]⟩ : ByteArray) (wrap64 (1000000 + t276))).bind fun t277 => (damperlaw1_LabelLong.j2 kj11 (t277.toList == ([] : List UInt8))))) else (damperlaw1_LabelLong.j2 kj11 false)))) else (damperlaw1_LabelLong.j2 kj11 false))) else (damperlaw1_LabelLong.j2 kj11 false)) = some r := H
                  have A43 := Aside0.mk A430
                  clear A430
                  by_cases c44 : (t272 == false) = true
                  · rw [if_pos c44] at H
                    have c44b0 : (t272 == false) = true := c44
                    (try (have c44b1 : decide (t272 = false) = true := by simpa using c44))
                    (try (have c44b2 : (t272 == false) = true := by simpa using c44))
                    clear c44
                    replace H := Option.bind_eq_some_iff.mp H
                    obtain ⟨t273, A450, H⟩ := H
                    replace H : (if ((t273.toList != ([] : List UInt8)) == false) = true then ((damperlaw1_within.f a1 9).bind fun t274 => ((label_Rev.f kj11 (⟨#[119, 101, 98]⟩ : ByteArray) (wrap64 (-t274))).bind fun t275 => (if t275.toList = ([] : List UInt8) then ((damperlaw1_within.f a1 9).bind fun t276 => ((label_Rev.f kj11 (⟨#[119, 101, 98]⟩ : ByteArray) (wrap64 (1000000 + t276))).bind fun t277 => (damperlaw1_LabelLong.j2 kj11 (t277.toList == ([] : List UInt8))))) else (damperlaw1_LabelLong.j2 kj11 false)))) else (damperlaw1_LabelLong.j2 kj11 false)) = some r := H
                    have A45 := Aside0.mk A450
                    clear A450
                    by_cases c46 : ((t273.toList != ([] : List UInt8)) == false) = true
                    · rw [if_pos c46] at H
                      have c46b0 : ((t273.toList != ([] : List UInt8)) == false) = true := c46
                      (try (have c46b1 : decide ((t273.toList != ([] : List UInt8)) = false) = true := by simpa using c46))
                      (try (have c46b2 : ((t273.toList != ([] : List UInt8)) == false) = true := by simpa using c46))
                      (try (have c46b9 : (t273.toList.isEmpty = !false) = True := ie_t c46b0))
                      (try (have c46b9 : (t273.toList = ([] : List UInt8)) = True := ie0_t c46b0))
                      (try (have c46b7 : (t273.toList.isEmpty) = true := iz0_t c46b0))
                      clear c46
                      replace H := Option.bind_eq_some_iff.mp H
                      obtain ⟨t274, A470, H⟩ := H
                      replace H : ((label_Rev.f kj11 (⟨#[119, 101, 98]⟩ : ByteArray) (wrap64 (-t274))).bind fun t275 => (if t275.toList = ([] : List UInt8) then ((damperlaw1_within.f a1 9).bind fun t276 => ((label_Rev.f kj11 (⟨#[119, 101, 98]⟩ : ByteArray) (wrap64 (1000000 + t276))).bind fun t277 => (damperlaw1_LabelLong.j2 kj11 (t277.toList == ([] : List UInt8))))) else (damperlaw1_LabelLong.j2 kj11 false))) = some r := H
                      have A47 := Aside0.mk A470
                      clear A470
                      replace H := Option.bind_eq_some_iff.mp H
                      obtain ⟨t275, A480, H⟩ := H
                      replace H : (if t275.toList = ([] : List UInt8) then ((damperlaw1_within.f a1 9).bind fun t276 => ((label_Rev.f kj11 (⟨#[119, 101, 98]⟩ : ByteArray) (wrap64 (1000000 + t276))).bind fun t277 => (damperlaw1_LabelLong.j2 kj11 (t277.toList == ([] : List UInt8))))) else (damperlaw1_LabelLong.j2 kj11 false)) = some r := H
                      have A48 := Aside0.mk A480
                      clear A480
                      by_cases c49 : t275.toList = ([] : List UInt8)
                      · rw [if_pos c49] at H
                        have c49b0 : (t275.toList == ([] : List UInt8)) = true := beq_iff_eq.mpr c49
                        have c49b1 : (t275.toList != ([] : List UInt8)) = false := bne_eq_false_iff_eq.mpr c49
                        clear c49
                        replace H := Option.bind_eq_some_iff.mp H
                        obtain ⟨t276, A500, H⟩ := H
                        replace H : ((label_Rev.f kj11 (⟨#[119, 101, 98]⟩ : ByteArray) (wrap64 (1000000 + t276))).bind fun t277 => (damperlaw1_LabelLong.j2 kj11 (t277.toList == ([] : List UInt8)))) = some r := H
                        have A50 := Aside0.mk A500
                        clear A500
                        replace H := Option.bind_eq_some_iff.mp H
                        obtain ⟨t277, A510, H⟩ := H
                        replace H : (damperlaw1_LabelLong.j2 kj11 (t277.toList == ([] : List UInt8))) = some r := H
                        have A51 := Aside0.mk A510
                        clear A510
                        have H' := Aside0.mk H
                        clear H
                        rw [show t276 = t274 from Option.some.inj (A50.out.symm.trans A47.out)] at A51
                        go_wp2_with (first | ((with_reducible refine gate_callee (f := 13) rfl ?_); refine goesL_ (some 29) rfl rfl Tryd.func13 (by kernel_rfl) rfl #[.string ((⟨#[97, 98, 99, 100, 101, 102, 103, 104, 45, 97, 98, 99, 100, 101, 102, 103, 104, 49, 45, 50, 51, 52, 53, 54, 55, 56, 57, 48, 49, 50]⟩ : ByteArray).extract 0 (t263 : Int).toNat)] rfl (by (try simp only [List.map_toArray, List.map_cons, List.map_nil]); first | done | rfl | (simp only [List.length_drop, List.length_take]; rfl)) ?_; (with_reducible refine (label_Name.calls ((⟨#[97, 98, 99, 100, 101, 102, 103, 104, 45, 97, 98, 99, 100, 101, 102, 103, 104, 49, 45, 50, 51, 52, 53, 54, 55, 56, 57, 48, 49, 50]⟩ : ByteArray).extract 0 (t263 : Int).toNat) t265 _ A15.out).mono ?_); rintro e w52 ⟨rfl, hb⟩; refine ⟨_, rfl, ?_⟩; have n0_ := Aside0.mk (below_step (by repeat (first | (with_reducible first | exact HB.out | apply below_alloc | apply pw_below_drewN | apply below_drew1) | exact HB.out)) hb); clear HB; have HB := n0_; clear n0_; (try clear hb); (try clear hb2); (try clear hk); (try clear hi)) | (go_at_call 15; (with_reducible refine (label_Tag.calls ((⟨#[97, 98, 99, 100, 101, 102, 103, 104, 45, 97, 98, 99, 100, 101, 102, 103, 104, 49, 45, 50, 51, 52, 53, 54, 55, 56, 57, 48, 49, 50]⟩ : ByteArray).extract 0 (t263 : Int).toNat) t272 _ A43.out).mono ?_); rintro e w53 ⟨rfl, hb⟩; have n0_ := Aside0.mk (below_step (by repeat (first | (with_reducible first | exact HB.out | apply below_alloc | apply pw_below_drewN | apply below_drew1) | exact HB.out)) hb); clear HB; have HB := n0_; clear n0_; (try clear hb); (try clear hb2); (try clear hk); (try clear hi)) | (go_at_call 17; (with_reducible refine (label_Rev.calls kj11 ((⟨#[97, 98, 99, 100, 101, 102, 103, 104, 45, 97, 98, 99, 100, 101, 102, 103, 104, 49, 45, 50, 51, 52, 53, 54, 55, 56, 57, 48, 49, 50]⟩ : ByteArray).extract 0 (t263 : Int).toNat) x8_11 t273 _ ?side1 A45.out).mono ?_); (case side1 => first | exact hLd_.out | exact hLd_ | exact ⟨LaidW.below hLd_.out (by repeat (first | (with_reducible first | exact HB.out | apply below_alloc | apply pw_below_drewN | apply below_drew1) | exact HB.out))⟩ | exact ⟨LaidW.below hLd_.out (by repeat (first | exact Below.refl _ _ | apply below_alloc | apply pw_below_drewN | apply below_drew1))⟩); rintro e w54 ⟨rfl, hb⟩; have n0_ := Aside0.mk (below_step (by repeat (first | (with_reducible first | exact HB.out | apply below_alloc | apply pw_below_drewN | apply below_drew1) | exact HB.out)) hb); clear HB; have HB := n0_; clear n0_; (try clear hb); (try clear hb2); (try clear hk); (try clear hi)) | (go_at_call 12; (with_reducible refine (damperlaw1_within.calls a1 9 t274 _ A47.out).mono ?_); rintro e w' ⟨rfl, ⟨nd, rfl⟩⟩) | (go_at_call 17; (with_reducible refine (label_Rev.calls kj11 (⟨#[119, 101, 98]⟩ : ByteArray) (wrap64 (-t274)) t275 _ ?side1 A48.out).mono ?_); (case side1 => first | exact hLd_.out | exact hLd_ | exact ⟨LaidW.below hLd_.out (by repeat (first | (with_reducible first | exact HB.out | apply below_alloc | apply pw_below_drewN | apply below_drew1) | exact HB.out))⟩ | exact ⟨LaidW.below hLd_.out (by repeat (first | exact Below.refl _ _ | apply below_alloc | apply pw_below_drewN | apply below_drew1))⟩); rintro e w55 ⟨rfl, hb⟩; have n0_ := Aside0.mk (below_step (by repeat (first | (with_reducible first | exact HB.out | apply below_alloc | apply pw_below_drewN | apply below_drew1) | exact HB.out)) hb); clear HB; have HB := n0_; clear n0_; (try clear hb); (try clear hb2); (try clear hk); (try clear hi)) | (go_at_call 12; (with_reducible refine (damperlaw1_within.calls a1 9 t276 _ A50.out).mono ?_); rintro e w' ⟨rfl, ⟨nd, rfl⟩⟩) | (go_at_call 17; (with_reducible refine (label_Rev.calls kj11 (⟨#[119, 101, 98]⟩ : ByteArray) (wrap64 (1000000 + t274)) t277 _ ?side1 A51.out).mono ?_); (case side1 => first | exact hLd_.out | exact hLd_ | exact ⟨LaidW.below hLd_.out (by repeat (first | (with_reducible first | exact HB.out | apply below_alloc | apply pw_below_drewN | apply below_drew1) | exact HB.out))⟩ | exact ⟨LaidW.below hLd_.out (by repeat (first | exact Below.refl _ _ | apply below_alloc | apply pw_below_drewN | apply below_drew1))⟩); rintro e w56 ⟨rfl, hb⟩; have n0_ := Aside0.mk (below_step (by repeat (first | (with_reducible first | exact HB.out | apply below_alloc | apply pw_below_drewN | apply below_drew1) | exact HB.out)) hb); clear HB; have HB := n0_; clear n0_; (try clear hb); (try clear hb2); (try clear hk); (try clear hi)))
                        go_meet
                        case rel => exact ⟨_, ((t277.toList == ([] : List UInt8))), (by first | rfl | (simp; done) | (simp [*]; done)), H', ⟨by have := HJ7.out; have := HJ11.out; first | omega | exact Nat.le_refl _⟩, ⟨by repeat (first | (with_reducible first | exact HB.out | apply below_alloc | apply pw_below_drewN | apply below_drew1) | exact HB.out)⟩⟩
                      · rw [if_neg c49] at H
                        have c49b0 : (t275.toList == ([] : List UInt8)) = false := beq_eq_false_iff_ne.mpr c49
                        have c49b1 : (t275.toList != ([] : List UInt8)) = true := bne_iff_ne.mpr c49
                        have H' := Aside0.mk H
                        clear H
                        go_wp2_with (first | ((with_reducible refine gate_callee (f := 13) rfl ?_); refine goesL_ (some 29) rfl rfl Tryd.func13 (by kernel_rfl) rfl #[.string ((⟨#[97, 98, 99, 100, 101, 102, 103, 104, 45, 97, 98, 99, 100, 101, 102, 103, 104, 49, 45, 50, 51, 52, 53, 54, 55, 56, 57, 48, 49, 50]⟩ : ByteArray).extract 0 (t263 : Int).toNat)] rfl (by (try simp only [List.map_toArray, List.map_cons, List.map_nil]); first | done | rfl | (simp only [List.length_drop, List.length_take]; rfl)) ?_; (with_reducible refine (label_Name.calls ((⟨#[97, 98, 99, 100, 101, 102, 103, 104, 45, 97, 98, 99, 100, 101, 102, 103, 104, 49, 45, 50, 51, 52, 53, 54, 55, 56, 57, 48, 49, 50]⟩ : ByteArray).extract 0 (t263 : Int).toNat) t265 _ A15.out).mono ?_); rintro e w57 ⟨rfl, hb⟩; refine ⟨_, rfl, ?_⟩; have n0_ := Aside0.mk (below_step (by repeat (first | (with_reducible first | exact HB.out | apply below_alloc | apply pw_below_drewN | apply below_drew1) | exact HB.out)) hb); clear HB; have HB := n0_; clear n0_; (try clear hb); (try clear hb2); (try clear hk); (try clear hi)) | (go_at_call 15; (with_reducible refine (label_Tag.calls ((⟨#[97, 98, 99, 100, 101, 102, 103, 104, 45, 97, 98, 99, 100, 101, 102, 103, 104, 49, 45, 50, 51, 52, 53, 54, 55, 56, 57, 48, 49, 50]⟩ : ByteArray).extract 0 (t263 : Int).toNat) t272 _ A43.out).mono ?_); rintro e w58 ⟨rfl, hb⟩; have n0_ := Aside0.mk (below_step (by repeat (first | (with_reducible first | exact HB.out | apply below_alloc | apply pw_below_drewN | apply below_drew1) | exact HB.out)) hb); clear HB; have HB := n0_; clear n0_; (try clear hb); (try clear hb2); (try clear hk); (try clear hi)) | (go_at_call 17; (with_reducible refine (label_Rev.calls kj11 ((⟨#[97, 98, 99, 100, 101, 102, 103, 104, 45, 97, 98, 99, 100, 101, 102, 103, 104, 49, 45, 50, 51, 52, 53, 54, 55, 56, 57, 48, 49, 50]⟩ : ByteArray).extract 0 (t263 : Int).toNat) x8_11 t273 _ ?side1 A45.out).mono ?_); (case side1 => first | exact hLd_.out | exact hLd_ | exact ⟨LaidW.below hLd_.out (by repeat (first | (with_reducible first | exact HB.out | apply below_alloc | apply pw_below_drewN | apply below_drew1) | exact HB.out))⟩ | exact ⟨LaidW.below hLd_.out (by repeat (first | exact Below.refl _ _ | apply below_alloc | apply pw_below_drewN | apply below_drew1))⟩); rintro e w59 ⟨rfl, hb⟩; have n0_ := Aside0.mk (below_step (by repeat (first | (with_reducible first | exact HB.out | apply below_alloc | apply pw_below_drewN | apply below_drew1) | exact HB.out)) hb); clear HB; have HB := n0_; clear n0_; (try clear hb); (try clear hb2); (try clear hk); (try clear hi)) | (go_at_call 12; (with_reducible refine (damperlaw1_within.calls a1 9 t274 _ A47.out).mono ?_); rintro e w' ⟨rfl, ⟨nd, rfl⟩⟩) | (go_at_call 17; (with_reducible refine (label_Rev.calls kj11 (⟨#[119, 101, 98]⟩ : ByteArray) (wrap64 (-t274)) t275 _ ?side1 A48.out).mono ?_); (case side1 => first | exact hLd_.out | exact hLd_ | exact ⟨LaidW.below hLd_.out (by repeat (first | (with_reducible first | exact HB.out | apply below_alloc | apply pw_below_drewN | apply below_drew1) | exact HB.out))⟩ | exact ⟨LaidW.below hLd_.out (by repeat (first | exact Below.refl _ _ | apply below_alloc | apply pw_below_drewN | apply below_drew1))⟩); rintro e w60 ⟨rfl, hb⟩; have n0_ := Aside0.mk (below_step (by repeat (first | (with_reducible first | exact HB.out | apply below_alloc | apply pw_below_drewN | apply below_drew1) | exact HB.out)) hb); clear HB; have HB := n0_; clear n0_; (try clear hb); (try clear hb2); (try clear hk); (try clear hi)))
                        go_meet
                        case rel => exact ⟨_, (false), (by first | rfl | (simp; done) | (simp [*]; done)), H', ⟨by have := HJ7.out; have := HJ11.out; first | omega | exact Nat.le_refl _⟩, ⟨by repeat (first | (with_reducible first | exact HB.out | apply below_alloc | apply pw_below_drewN | apply below_drew1) | exact HB.out)⟩⟩
                    · rw [if_neg c46] at H
                      have c46b0 : ((t273.toList != ([] : List UInt8)) == false) = false := by simpa using c46
                      (try (have c46b1 : decide ((t273.toList != ([] : List UInt8)) = false) = false := by simpa using c46))
                      (try (have c46b2 : ((t273.toList != ([] : List UInt8)) == false) = false := by simpa using c46))
                      (try (have c46b3 : ¬ ((t273.toList != ([] : List UInt8)) = false) := by simpa using c46))
                      (try (have c46b9 : (t273.toList.isEmpty = !false) = False := ie_f c46b0))
                      (try (have c46b9 : (t273.toList = ([] : List UInt8)) = False := ie0_f c46b0))
                      (try (have c46b7 : (t273.toList.isEmpty) = false := iz0_f c46b0))
                      clear c46
                      have H' := Aside0.mk H
                      clear H
                      go_wp2_with (first | ((with_reducible refine gate_callee (f := 13) rfl ?_); refine goesL_ (some 29) rfl rfl Tryd.func13 (by kernel_rfl) rfl #[.string ((⟨#[97, 98, 99, 100, 101, 102, 103, 104, 45, 97, 98, 99, 100, 101, 102, 103, 104, 49, 45, 50, 51, 52, 53, 54, 55, 56, 57, 48, 49, 50]⟩ : ByteArray).extract 0 (t263 : Int).toNat)] rfl (by (try simp only [List.map_toArray, List.map_cons, List.map_nil]); first | done | rfl | (simp only [List.length_drop, List.length_take]; rfl)) ?_; (with_reducible refine (label_Name.calls ((⟨#[97, 98, 99, 100, 101, 102, 103, 104, 45, 97, 98, 99, 100, 101, 102, 103, 104, 49, 45, 50, 51, 52, 53, 54, 55, 56, 57, 48, 49, 50]⟩ : ByteArray).extract 0 (t263 : Int).toNat) t265 _ A15.out).mono ?_); rintro e w61 ⟨rfl, hb⟩; refine ⟨_, rfl, ?_⟩; have n0_ := Aside0.mk (below_step (by repeat (first | (with_reducible first | exact HB.out | apply below_alloc | apply pw_below_drewN | apply below_drew1) | exact HB.out)) hb); clear HB; have HB := n0_; clear n0_; (try clear hb); (try clear hb2); (try clear hk); (try clear hi)) | (go_at_call 15; (with_reducible refine (label_Tag.calls ((⟨#[97, 98, 99, 100, 101, 102, 103, 104, 45, 97, 98, 99, 100, 101, 102, 103, 104, 49, 45, 50, 51, 52, 53, 54, 55, 56, 57, 48, 49, 50]⟩ : ByteArray).extract 0 (t263 : Int).toNat) t272 _ A43.out).mono ?_); rintro e w62 ⟨rfl, hb⟩; have n0_ := Aside0.mk (below_step (by repeat (first | (with_reducible first | exact HB.out | apply below_alloc | apply pw_below_drewN | apply below_drew1) | exact HB.out)) hb); clear HB; have HB := n0_; clear n0_; (try clear hb); (try clear hb2); (try clear hk); (try clear hi)) | (go_at_call 17; (with_reducible refine (label_Rev.calls kj11 ((⟨#[97, 98, 99, 100, 101, 102, 103, 104, 45, 97, 98, 99, 100, 101, 102, 103, 104, 49, 45, 50, 51, 52, 53, 54, 55, 56, 57, 48, 49, 50]⟩ : ByteArray).extract 0 (t263 : Int).toNat) x8_11 t273 _ ?side1 A45.out).mono ?_); (case side1 => first | exact hLd_.out | exact hLd_ | exact ⟨LaidW.below hLd_.out (by repeat (first | (with_reducible first | exact HB.out | apply below_alloc | apply pw_below_drewN | apply below_drew1) | exact HB.out))⟩ | exact ⟨LaidW.below hLd_.out (by repeat (first | exact Below.refl _ _ | apply below_alloc | apply pw_below_drewN | apply below_drew1))⟩); rintro e w63 ⟨rfl, hb⟩; have n0_ := Aside0.mk (below_step (by repeat (first | (with_reducible first | exact HB.out | apply below_alloc | apply pw_below_drewN | apply below_drew1) | exact HB.out)) hb); clear HB; have HB := n0_; clear n0_; (try clear hb); (try clear hb2); (try clear hk); (try clear hi)))
                      go_meet
                      case rel => exact ⟨_, (false), (by first | rfl | (simp; done) | (simp [*]; done)), H', ⟨by have := HJ7.out; have := HJ11.out; first | omega | exact Nat.le_refl _⟩, ⟨by repeat (first | (with_reducible first | exact HB.out | apply below_alloc | apply pw_below_drewN | apply below_drew1) | exact HB.out)⟩⟩
                  · rw [if_neg c44] at H
                    have c44b0 : (t272 == false) = false := by simpa using c44
                    (try (have c44b1 : decide (t272 = false) = false := by simpa using c44))
                    (try (have c44b2 : (t272 == false) = false := by simpa using c44))
                    (try (have c44b3 : ¬ (t272 = false) := by simpa using c44))
                    clear c44
                    have H' := Aside0.mk H
                    clear H
                    go_wp2_with (first | ((with_reducible refine gate_callee (f := 13) rfl ?_); refine goesL_ (some 29) rfl rfl Tryd.func13 (by kernel_rfl) rfl #[.string ((⟨#[97, 98, 99, 100, 101, 102, 103, 104, 45, 97, 98, 99, 100, 101, 102, 103, 104, 49, 45, 50, 51, 52, 53, 54, 55, 56, 57, 48, 49, 50]⟩ : ByteArray).extract 0 (t263 : Int).toNat)] rfl (by (try simp only [List.map_toArray, List.map_cons, List.map_nil]); first | done | rfl | (simp only [List.length_drop, List.length_take]; rfl)) ?_; (with_reducible refine (label_Name.calls ((⟨#[97, 98, 99, 100, 101, 102, 103, 104, 45, 97, 98, 99, 100, 101, 102, 103, 104, 49, 45, 50, 51, 52, 53, 54, 55, 56, 57, 48, 49, 50]⟩ : ByteArray).extract 0 (t263 : Int).toNat) t265 _ A15.out).mono ?_); rintro e w64 ⟨rfl, hb⟩; refine ⟨_, rfl, ?_⟩; have n0_ := Aside0.mk (below_step (by repeat (first | (with_reducible first | exact HB.out | apply below_alloc | apply pw_below_drewN | apply below_drew1) | exact HB.out)) hb); clear HB; have HB := n0_; clear n0_; (try clear hb); (try clear hb2); (try clear hk); (try clear hi)) | (go_at_call 15; (with_reducible refine (label_Tag.calls ((⟨#[97, 98, 99, 100, 101, 102, 103, 104, 45, 97, 98, 99, 100, 101, 102, 103, 104, 49, 45, 50, 51, 52, 53, 54, 55, 56, 57, 48, 49, 50]⟩ : ByteArray).extract 0 (t263 : Int).toNat) t272 _ A43.out).mono ?_); rintro e w65 ⟨rfl, hb⟩; have n0_ := Aside0.mk (below_step (by repeat (first | (with_reducible first | exact HB.out | apply below_alloc | apply pw_below_drewN | apply below_drew1) | exact HB.out)) hb); clear HB; have HB := n0_; clear n0_; (try clear hb); (try clear hb2); (try clear hk); (try clear hi)))
                    go_meet
                    case rel => exact ⟨_, (false), (by first | rfl | (simp; done) | (simp [*]; done)), H', ⟨by have := HJ7.out; have := HJ11.out; first | omega | exact Nat.le_refl _⟩, ⟨by repeat (first | (with_reducible first | exact HB.out | apply below_alloc | apply pw_below_drewN | apply below_drew1) | exact HB.out)⟩⟩
                · rw [if_neg c42] at H
                  have c42b0 : (t265 == false) = false := by simpa using c42
                  (try (have c42b1 : decide (t265 = false) = false := by simpa using c42))
                  (try (have c42b2 : (t265 == false) = false := by simpa using c42))
                  (try (have c42b3 : ¬ (t265 = false) := by simpa using c42))
                  clear c42
                  have H' := Aside0.mk H
                  clear H
                  go_wp2_with (first | ((with_reducible refine gate_callee (f := 13) rfl ?_); refine goesL_ (some 29) rfl rfl Tryd.func13 (by kernel_rfl) rfl #[.string ((⟨#[97, 98, 99, 100, 101, 102, 103, 104, 45, 97, 98, 99, 100, 101, 102, 103, 104, 49, 45, 50, 51, 52, 53, 54, 55, 56, 57, 48, 49, 50]⟩ : ByteArray).extract 0 (t263 : Int).toNat)] rfl (by (try simp only [List.map_toArray, List.map_cons, List.map_nil]); first | done | rfl | (simp only [List.length_drop, List.length_take]; rfl)) ?_; (with_reducible refine (label_Name.calls ((⟨#[97, 98, 99, 100, 101, 102, 103, 104, 45, 97, 98, 99, 100, 101, 102, 103, 104, 49, 45, 50, 51, 52, 53, 54, 55, 56, 57, 48, 49, 50]⟩ : ByteArray).extract 0 (t263 : Int).toNat) t265 _ A15.out).mono ?_); rintro e w66 ⟨rfl, hb⟩; refine ⟨_, rfl, ?_⟩; have n0_ := Aside0.mk (below_step (by repeat (first | (with_reducible first | exact HB.out | apply below_alloc | apply pw_below_drewN | apply below_drew1) | exact HB.out)) hb); clear HB; have HB := n0_; clear n0_; (try clear hb); (try clear hb2); (try clear hk); (try clear hi)))
                  go_meet
                  case rel => exact ⟨_, (false), (by first | rfl | (simp; done) | (simp [*]; done)), H', ⟨by have := HJ7.out; have := HJ11.out; first | omega | exact Nat.le_refl _⟩, ⟨by repeat (first | (with_reducible first | exact HB.out | apply below_alloc | apply pw_below_drewN | apply below_drew1) | exact HB.out)⟩⟩
            case rest =>
              clear HC14
              try clear c1
              try clear c2
              try clear p2
              try clear c4
              try clear c6
              try clear c6b0
              try clear c6b1
              try clear p6
              try clear c7
              try clear c7b0
              try clear c7b1
              try clear c8
              try clear c10
              try clear c10b0
              try clear c11
              try clear c11b0
              try clear c11b1
              try clear c12
              try clear c13
              try clear c16
              try clear c17
              try clear c17b0
              try clear c17b1
              try clear c17b2
              try clear c19
              try clear c19b0
              try clear c19b1
              try clear c19b2
              try clear c21
              try clear c21b0
              try clear c21b1
              try clear c21b2
              try clear c24
              try clear c24b0
              try clear c24b1
              try clear c42
              try clear c42b0
              try clear c42b1
              try clear c42b2
              try clear c44
              try clear c44b0
              try clear c44b1
              try clear c44b2
              try clear c46
              try clear c46b0
              try clear c46b1
              try clear c46b2
              try clear c49
              try clear c49b0
              try clear c49b1
              try clear p64
              try clear p2
              try clear p6
              obtain ⟨kq, x4_13, rfl, HA, HJ13, HB⟩ := hcut
              cases kq with
              | zero => exact absurd HA.out (by simp [damperlaw1_LabelLong.j2])
              | succ kj13 =>
                have H := HA.out
                clear HA
                simp only [damperlaw1_LabelLong.j2] at H
                obtain rfl := Option.some.inj H
                go_wp2
                go_ret
                exact ⟨by first | rfl | (simp [errW_none, errW_some] <;> rfl) | (simp [*, errW_none, errW_some] <;> rfl), by repeat (first | (with_reducible first | exact HB.out | apply below_alloc | apply pw_below_drewN | apply below_drew1) | exact HB.out)⟩
  · replace c4 := Bool.eq_false_iff.mpr c4
    subst c4
    have H1 : (some false) = some r := by rw [if_neg (show ¬ (false = true) by decide)] at H; exact H
    clear H
    have H := H1
    clear H1
    exact absurd (Option.some.inj H) (by rw [hr0_.out]; decide)

/-- THE ONE PURE STATEMENT of damperlaw1_LabelLong: yours. -/
def damperlaw1_LabelLong.Pure : Prop := ∀ (a0 : Int) (a1 : Int), ((Lit.int .i64 a0).wf = true) → ((Lit.int .i64 a1).wf = true) → ∃ k, damperlaw1_LabelLong.f k a0 a1 = some true
theorem damperlaw1_LabelLong.walk (P : damperlaw1_LabelLong.Pure) (a0 : Int) (a1 : Int) (w : World) (hLd_ : LaidW w) (w0 : (Lit.int .i64 a0).wf = true) (w1 : (Lit.int .i64 a1).wf = true)  :
    Calls Tryd.prog 8 #[.int .i64 a0, .int .i64 a1] w fun e w' => e = .returned (.bool true) ∧ Below w.heap.size w w' := by
  obtain ⟨k, h⟩ := P a0 a1 w0 w1
  refine (damperlaw1_LabelLong.calls k a0 a1 true w ⟨hLd_⟩ ⟨rfl⟩ h).mono ?_
  rintro e w' ⟨rfl, hd⟩
  exact ⟨rfl, hd⟩

end Go.Proofs.YtgnnbnbmjifgfaaDoor.Ma
