-- Written by a program of this session (wip/tools/myprint.py), in the form of the kit's print. Not trusted: Lean checks it.
import Derived.Test.YtgnnbnbmjifgfaaDoorMax0
import Derived.Test.YtgnnbnbmjifgfaaDoorMax20
import Derived.Test.YtgnnbnbmjifgfaaDoorMax38
import Derived.Test.YtgnnbnbmjifgfaaDoorMax39
import Derived.Test.YtgnnbnbmjifgfaaDoorMax40
import Derived.Test.YtgnnbnbmjifgfaaDoorMax41
import Derived.Test.YtgnnbnbmjifgfaaDoorMax46
import Derived.Test.YtgnnbnbmjifgfaaDoorMax47
import Derived.Test.YtgnnbnbmjifgfaaDoorMax48
namespace Go.Proofs.YtgnnbnbmjifgfaaDoor.Ma
open Go.RowKit Go.Proofs.YtgnnbnbmjifgfaaDoorW.PrintWords Go.Proofs.YtgnnbnbmjifgfaaDoorW.PrintLast Go.Proofs.YtgnnbnbmjifgfaaDoorW.PrintMore
attribute [local go_sem] max2_int min2_int max_two min_two max_three min_three max_four min_four   -- for this text's walks alone
set_option linter.unusedVariables false
set_option linter.unusedSimpArgs false

/-! ### damperlaw1_LabelRevs: function 4 -/
mutual
def damperlaw1_LabelRevs.l0 : Nat → List Int → ByteArray → Int → List Int → Int → Option (Bool)
  | 0, _, _, _, _, _ => none
  | k + 1, x0, x2, x3, x9, x10 => if x10 < (x9.length : Int) then ((damperlaw1_Text.f k x0).bind fun t186 => (if 0 ≤ x10 then ((label_Rev.f k t186 (rd x9 x10)).bind fun t188 => ((damperlaw1_Text.f k x0).bind fun t189 => ((damperref1_Rev.f k t189 (rd x9 x10)).bind fun t191 => (if t188.toList = t191.toList then (if 1 + x2.size ≤ 9223372036854775807 then ((label_Rev.f k ((⟨#[97]⟩ : ByteArray) ++ x2) (rd x9 x10)).bind fun t193 => ((damperref1_Rev.f k ((⟨#[97]⟩ : ByteArray) ++ x2) (rd x9 x10)).bind fun t195 => (if t193.toList = t195.toList then (damperlaw1_LabelRevs.l0 k x0 x2 x3 x9 (wrap64 (x10 + 1))) else (some false)))) else (none)) else (some false))))) else (none))) else ((damperlaw1_Text.f k x0).bind fun t196 => (if 4 + x2.size ≤ 9223372036854775807 then ((damperlaw1_Text.f k x0).bind fun t197 => (if t197.size + 1 ≤ 9223372036854775807 then ((damperlaw1_within.f x3 20000000).bind fun t198 => ((damperref1_Digits.f k t198).bind fun t199 => (if (t197 ++ (⟨#[45]⟩ : ByteArray)).size + t199.size ≤ 9223372036854775807 then (damperlaw1_LabelRevs.l1 k (([t196, x2, (⟨#[119, 101, 98, 45]⟩ : ByteArray) ++ x2, (t197 ++ (⟨#[45]⟩ : ByteArray)) ++ t199, (⟨#[97, 45, 48]⟩ : ByteArray), (⟨#[97, 45, 48, 49]⟩ : ByteArray), (⟨#[97, 45, 49, 45, 50]⟩ : ByteArray), (⟨#[97, 45, 45, 49]⟩ : ByteArray), (⟨#[45, 49]⟩ : ByteArray), (⟨#[97, 45]⟩ : ByteArray), (⟨#[49, 45, 49]⟩ : ByteArray), (⟨#[97, 45, 49, 50, 51, 52, 53, 54, 55]⟩ : ByteArray), (⟨#[97, 45, 49, 50, 51, 52, 53, 54, 55, 56, 57, 48, 49, 50, 51, 52, 53, 54, 55, 56, 57, 48]⟩ : ByteArray)] : List ByteArray)) 0) else (none)))) else (none))) else (none)))
def damperlaw1_LabelRevs.l1 : Nat → List ByteArray → Int → Option (Bool)
  | 0, _, _ => none
  | k + 1, x11, x12 => if x12 < (x11.length : Int) then (if 0 ≤ x12 then ((label_Split.f (rdOf ByteArray.empty x11 x12)).bind fun bt204 => ((damperref1_Split.f k (rdOf ByteArray.empty x11 x12)).bind fun bt208 => (if bt204.1.toList = bt208.1.toList then (if bt204.2.1 = bt208.2.1 then (damperlaw1_LabelRevs.j2 k x11 x12 (bt204.2.2 != bt208.2.2)) else (damperlaw1_LabelRevs.j2 k x11 x12 true)) else (damperlaw1_LabelRevs.j2 k x11 x12 true)))) else (none)) else (some true)
def damperlaw1_LabelRevs.j2 : Nat → List ByteArray → Int → Bool → Option (Bool)
  | 0, _, _, _ => none
  | k + 1, x11, x12, x116 => if x116 = true then (some false) else (damperlaw1_LabelRevs.l1 k x11 (wrap64 (x12 + 1)))
end
def damperlaw1_LabelRevs.f (k : Nat) (l0 : List Int) (a1 : Int) (a2 : ByteArray) (a3 : Int) : Option (Bool) := (damperlaw1_known.f k).bind fun t181 => (if t181 = true then (if (a2.size : Int) > 100 then (some true) else ((damperlaw1_within.f a3 1000002).bind fun t182 => (damperlaw1_LabelRevs.l0 k l0 a2 a3 (([a1, wrap64 (t182 - 1), 999999, 1] : List Int)) 0))) else (some false))
theorem damperlaw1_LabelRevs.mono_l : ∀ k, (∀ y0 y1 y2 y3 y4, LeO (damperlaw1_LabelRevs.l0 k y0 y1 y2 y3 y4) (damperlaw1_LabelRevs.l0 (k + 1) y0 y1 y2 y3 y4)) ∧ (∀ y0 y1, LeO (damperlaw1_LabelRevs.l1 k y0 y1) (damperlaw1_LabelRevs.l1 (k + 1) y0 y1)) ∧ (∀ y0 y1 y2, LeO (damperlaw1_LabelRevs.j2 k y0 y1 y2) (damperlaw1_LabelRevs.j2 (k + 1) y0 y1 y2))
  | 0 => ⟨fun _ _ _ _ _ r h => by simp [damperlaw1_LabelRevs.l0] at h, fun _ _ r h => by simp [damperlaw1_LabelRevs.l1] at h, fun _ _ _ r h => by simp [damperlaw1_LabelRevs.j2] at h⟩
  | k + 1 => by
    obtain ⟨ih0, ih1, ih2⟩ := damperlaw1_LabelRevs.mono_l k
    refine ⟨?_, ?_, ?_⟩
    · intro y0 y1 y2 y3 y4
      unfold damperlaw1_LabelRevs.l0
      repeat' first
      | (with_reducible exact ih0 _ _ _ _ _)
      | (with_reducible exact ih1 _ _)
      | (with_reducible exact ih2 _ _ _)
      | (with_reducible exact damperlaw1_Text.mono _ _)
      | (with_reducible exact damperlaw1_known.mono _)
      | (with_reducible exact damperref1_Digits.mono _ _)
      | (with_reducible exact damperref1_Rev.mono _ _ _)
      | (with_reducible exact damperref1_Split.mono _ _)
      | (with_reducible exact label_Rev.mono _ _ _)
      | (with_reducible exact LeO.refl _)
      | (with_reducible exact LeO.none _)
      | (with_reducible refine LeO.ite ?_ ?_)
      | (with_reducible refine LeO.bind ?_ (fun _ => ?_))
      | exact ih0 _ _ _ _ _
      | exact ih1 _ _
      | exact ih2 _ _ _
      | exact damperlaw1_Text.mono _ _
      | exact damperlaw1_known.mono _
      | exact damperref1_Digits.mono _ _
      | exact damperref1_Rev.mono _ _ _
      | exact damperref1_Split.mono _ _
      | exact label_Rev.mono _ _ _
      | exact LeO.none _
      | refine LeO.ite ?_ ?_
      | refine LeO.bind ?_ (fun _ => ?_)
    · intro y0 y1
      unfold damperlaw1_LabelRevs.l1
      repeat' first
      | (with_reducible exact ih0 _ _ _ _ _)
      | (with_reducible exact ih1 _ _)
      | (with_reducible exact ih2 _ _ _)
      | (with_reducible exact damperlaw1_Text.mono _ _)
      | (with_reducible exact damperlaw1_known.mono _)
      | (with_reducible exact damperref1_Digits.mono _ _)
      | (with_reducible exact damperref1_Rev.mono _ _ _)
      | (with_reducible exact damperref1_Split.mono _ _)
      | (with_reducible exact label_Rev.mono _ _ _)
      | (with_reducible exact LeO.refl _)
      | (with_reducible exact LeO.none _)
      | (with_reducible refine LeO.ite ?_ ?_)
      | (with_reducible refine LeO.bind ?_ (fun _ => ?_))
      | exact ih0 _ _ _ _ _
      | exact ih1 _ _
      | exact ih2 _ _ _
      | exact damperlaw1_Text.mono _ _
      | exact damperlaw1_known.mono _
      | exact damperref1_Digits.mono _ _
      | exact damperref1_Rev.mono _ _ _
      | exact damperref1_Split.mono _ _
      | exact label_Rev.mono _ _ _
      | exact LeO.none _
      | refine LeO.ite ?_ ?_
      | refine LeO.bind ?_ (fun _ => ?_)
    · intro y0 y1 y2
      unfold damperlaw1_LabelRevs.j2
      repeat' first
      | (with_reducible exact ih0 _ _ _ _ _)
      | (with_reducible exact ih1 _ _)
      | (with_reducible exact ih2 _ _ _)
      | (with_reducible exact damperlaw1_Text.mono _ _)
      | (with_reducible exact damperlaw1_known.mono _)
      | (with_reducible exact damperref1_Digits.mono _ _)
      | (with_reducible exact damperref1_Rev.mono _ _ _)
      | (with_reducible exact damperref1_Split.mono _ _)
      | (with_reducible exact label_Rev.mono _ _ _)
      | (with_reducible exact LeO.refl _)
      | (with_reducible exact LeO.none _)
      | (with_reducible refine LeO.ite ?_ ?_)
      | (with_reducible refine LeO.bind ?_ (fun _ => ?_))
      | exact ih0 _ _ _ _ _
      | exact ih1 _ _
      | exact ih2 _ _ _
      | exact damperlaw1_Text.mono _ _
      | exact damperlaw1_known.mono _
      | exact damperref1_Digits.mono _ _
      | exact damperref1_Rev.mono _ _ _
      | exact damperref1_Split.mono _ _
      | exact label_Rev.mono _ _ _
      | exact LeO.none _
      | refine LeO.ite ?_ ?_
      | refine LeO.bind ?_ (fun _ => ?_)
theorem damperlaw1_LabelRevs.mono : ∀ a0 a1 a2 a3 k, LeO (damperlaw1_LabelRevs.f k a0 a1 a2 a3) (damperlaw1_LabelRevs.f (k + 1) a0 a1 a2 a3) := by
  intro a0 a1 a2 a3 k
  obtain ⟨ih0, ih1, ih2⟩ := damperlaw1_LabelRevs.mono_l k
  unfold damperlaw1_LabelRevs.f
  repeat' first
      | (with_reducible exact ih0 _ _ _ _ _)
      | (with_reducible exact ih1 _ _)
      | (with_reducible exact ih2 _ _ _)
      | (with_reducible exact damperlaw1_Text.mono _ _)
      | (with_reducible exact damperlaw1_known.mono _)
      | (with_reducible exact damperref1_Digits.mono _ _)
      | (with_reducible exact damperref1_Rev.mono _ _ _)
      | (with_reducible exact damperref1_Split.mono _ _)
      | (with_reducible exact label_Rev.mono _ _ _)
      | (with_reducible exact LeO.refl _)
      | (with_reducible exact LeO.none _)
      | (with_reducible refine LeO.ite ?_ ?_)
      | (with_reducible refine LeO.bind ?_ (fun _ => ?_))
      | exact ih0 _ _ _ _ _
      | exact ih1 _ _
      | exact ih2 _ _ _
      | exact damperlaw1_Text.mono _ _
      | exact damperlaw1_known.mono _
      | exact damperref1_Digits.mono _ _
      | exact damperref1_Rev.mono _ _ _
      | exact damperref1_Split.mono _ _
      | exact label_Rev.mono _ _ _
      | exact LeO.none _
      | refine LeO.ite ?_ ?_
      | refine LeO.bind ?_ (fun _ => ?_)
def damperlaw1_LabelRevs.T9 : Bool × List (List Nat × List Nat) := (true, [([], []), ([0], [0]), ([], []), ([], []), ([2, 3], [2, 3]), ([4], [4]), ([1, 5, 1], [1, 5]), ([], []), ([7, 6], [7]), ([], []), ([], []), ([9, 10], [9, 10]), ([11], [11]), ([8, 12, 8], [8, 12]), ([6, 13], [6, 13]), ([14, 13], [14]), ([15], [15]), ([16, 15], [15, 16]), ([15], [15]), ([15], [15]), ([18, 19, 15], [15, 18, 19]), ([20, 15], [15, 20]), ([17, 21, 15, 15], [15, 17, 21]), ([15], [15]), ([23, 15], [15, 23]), ([15], [15]), ([15], [15]), ([25, 26, 15], [15, 25, 26]), ([27, 15], [15, 27]), ([24, 28, 22, 15], [15, 24, 28]), ([22, 29, 15], [15, 22, 29]), ([15, 30], [15, 30])])
def damperlaw1_LabelRevs.B9 : List Nat := [0, 1, 0, 0, 12, 28, 63, 0, 255, 0, 0, 1536, 3584, 8191, 16383, 32767, 65535, 131071, 65535, 65535, 851967, 1900543, 4194303, 65535, 8454143, 65535, 65535, 100728831, 234946559, 536870911, 1073741823, 2147483647]
theorem damperlaw1_LabelRevs.tab9 : rtab .any (opsOf Tryd.f4 9) = damperlaw1_LabelRevs.T9 := by kernel_rfl
theorem damperlaw1_LabelRevs.bits9 : waitsOk damperlaw1_LabelRevs.T9.2 damperlaw1_LabelRevs.B9 = true := by kernel_rfl
set_option maxHeartbeats 8000000 in
set_option maxRecDepth 100000 in
theorem damperlaw1_LabelRevs.calls (k : Nat) (A0 : Option Addr) (c0 : Nat) (l0 : List Int) (a1 : Int) (a2 : ByteArray) (a3 : Int) (r : Bool) (w : World) (hLd_ : Aside0 (LaidW w)) (hr0 : Kd.C (Kd.int .i64) w A0 l0.length l0) (hc0 : l0.length ≤ c0) (hr0_ : Aside0 (r = true)) (h : damperlaw1_LabelRevs.f k l0 a1 a2 a3 = some r) :
    Calls Tryd.prog 4 #[.slice A0 l0.length c0, .int .i64 a1, .string a2, .int .i64 a3] w fun e w' => e = .returned (.bool r) ∧ Below w.heap.size w w' := by
  have HR0 := Aside0.mk hr0
  have HC0 := Aside0.mk hc0
  clear hr0 hc0
  have HB := Aside0.mk (Below.refl w.heap.size w)
  have H : ((damperlaw1_known.f k).bind fun t181 => (if t181 = true then (if (a2.size : Int) > 100 then (some true) else ((damperlaw1_within.f a3 1000002).bind fun t182 => (damperlaw1_LabelRevs.l0 k l0 a2 a3 (([a1, wrap64 (t182 - 1), 999999, 1] : List Int)) 0))) else (some false))) = some r := h
  clear h
  replace H := Option.bind_eq_some_iff.mp H
  obtain ⟨t181, A50, H⟩ := H
  replace H : (if t181 = true then (if (a2.size : Int) > 100 then (some true) else ((damperlaw1_within.f a3 1000002).bind fun t182 => (damperlaw1_LabelRevs.l0 k l0 a2 a3 (([a1, wrap64 (t182 - 1), 999999, 1] : List Int)) 0))) else (some false)) = some r := H
  have A5 := Aside0.mk A50
  clear A50
  by_cases c6 : t181 = true
  · subst c6
    have H1 : (if (a2.size : Int) > 100 then (some true) else ((damperlaw1_within.f a3 1000002).bind fun t182 => (damperlaw1_LabelRevs.l0 k l0 a2 a3 (([a1, wrap64 (t182 - 1), 999999, 1] : List Int)) 0))) = some r := by rw [if_pos rfl] at H; exact H
    clear H
    have H := H1
    clear H1
    by_cases c7 : (a2.size : Int) > 100
    · rw [if_pos c7] at H
      have c7b0 : decide (100 < (a2.size : Int)) = true := decide_eq_true c7
      have c7b1 : decide (100 < a2.size) = true := decide_eq_true (by omega)
      clear c7
      obtain rfl := Option.some.inj H
      go_enter Tryd.func4, Tryd.ntmps4
      go_wp2_with (first | ((with_reducible refine gate_callee (f := 10) rfl ?_); refine goesL_ (some 19) rfl rfl Tryd.func10 (by kernel_rfl) rfl #[] rfl (by (try simp only [List.map_toArray, List.map_cons, List.map_nil]); first | done | rfl | (simp only [List.length_drop, List.length_take]; rfl)) ?_; (with_reducible refine (damperlaw1_known.calls k  true _ ?side1 A5.out).mono ?_); (case side1 => first | exact hLd_.out | exact hLd_ | exact ⟨LaidW.below hLd_.out (by repeat (first | (with_reducible first | exact HB.out | apply below_alloc | apply pw_below_drewN | apply below_drew1) | exact HB.out))⟩ | exact ⟨LaidW.below hLd_.out (by repeat (first | exact Below.refl _ _ | apply below_alloc | apply pw_below_drewN | apply below_drew1))⟩); rintro e w8 ⟨rfl, hb⟩; refine ⟨_, rfl, ?_⟩; have n0_ := Aside0.mk (below_step (by repeat (first | (with_reducible first | exact HB.out | apply below_alloc | apply pw_below_drewN | apply below_drew1) | exact HB.out)) hb); clear HB; have HB := n0_; clear n0_; (try clear hb); (try clear hb2); (try clear hk); (try clear hi)))
      go_ret
      exact ⟨by first | rfl | (simp [errW_none, errW_some] <;> rfl) | (simp [*, errW_none, errW_some] <;> rfl), by repeat (first | (with_reducible first | exact HB.out | apply below_alloc | apply pw_below_drewN | apply below_drew1) | exact HB.out)⟩
    · rw [if_neg c7] at H
      have c7b0 : decide (100 < (a2.size : Int)) = false := decide_eq_false c7
      have c7b1 : decide (100 < a2.size) = false := decide_eq_false (by omega)
      clear c7
      replace H := Option.bind_eq_some_iff.mp H
      obtain ⟨t182, A90, H⟩ := H
      replace H : (damperlaw1_LabelRevs.l0 k l0 a2 a3 (([a1, wrap64 (t182 - 1), 999999, 1] : List Int)) 0) = some r := H
      have A9 := Aside0.mk A90
      clear A90
      obtain ⟨y183, hy183⟩ : ∃ y_ : List Int, y_ = (([a1, wrap64 (t182 - 1), 999999, 1] : List Int)) := ⟨_, rfl⟩
      replace H : (damperlaw1_LabelRevs.l0 k l0 a2 a3 y183 0) = some r := by first | (rw [hy183]; with_reducible exact H) | (have H2_ := (Option.bind_some _ _).symm.trans H; rw [hy183]; with_reducible exact H2_) | (have H2_ := (Option.bind_some _ _).symm.trans H; with_reducible exact H2_) | with_reducible exact H | (rw [hy183]; exact H) | exact H
      have Ny183 := Aside0.mk hy183
      clear hy183
      have H' := Aside0.mk H
      clear H
      go_enter Tryd.func4, Tryd.ntmps4
      go_wp2_with (first | ((with_reducible refine gate_callee (f := 10) rfl ?_); refine goesL_ (some 19) rfl rfl Tryd.func10 (by kernel_rfl) rfl #[] rfl (by (try simp only [List.map_toArray, List.map_cons, List.map_nil]); first | done | rfl | (simp only [List.length_drop, List.length_take]; rfl)) ?_; (with_reducible refine (damperlaw1_known.calls k  true _ ?side1 A5.out).mono ?_); (case side1 => first | exact hLd_.out | exact hLd_ | exact ⟨LaidW.below hLd_.out (by repeat (first | (with_reducible first | exact HB.out | apply below_alloc | apply pw_below_drewN | apply below_drew1) | exact HB.out))⟩ | exact ⟨LaidW.below hLd_.out (by repeat (first | exact Below.refl _ _ | apply below_alloc | apply pw_below_drewN | apply below_drew1))⟩); rintro e w10 ⟨rfl, hb⟩; refine ⟨_, rfl, ?_⟩; have n0_ := Aside0.mk (below_step (by repeat (first | (with_reducible first | exact HB.out | apply below_alloc | apply pw_below_drewN | apply below_drew1) | exact HB.out)) hb); clear HB; have HB := n0_; clear n0_; (try clear hb); (try clear hb2); (try clear hk); (try clear hi)) | ((with_reducible refine gate_callee (f := 12) rfl ?_); refine goesL_ (some 26) rfl rfl Tryd.func12 (by kernel_rfl) rfl #[.int .i64 a3, .int .i64 1000002] rfl (by (try simp only [List.map_toArray, List.map_cons, List.map_nil]); first | done | rfl | (simp only [List.length_drop, List.length_take]; rfl)) ?_; (with_reducible refine (damperlaw1_within.calls a3 1000002 t182 _ A9.out).mono ?_); rintro e w' ⟨rfl, ⟨nd, rfl⟩⟩; refine ⟨_, rfl, ?_⟩) | ((with_reducible refine gate_dst (N := 28) rfl ?_); refine Kd.R_lit (Kd.int .i64) _ 3 ?hg (N := 28) ?hd (xs := ([a1, wrap64 (t182 - 1), 999999, 1] : List Int)) (inner := [.int .i64 a1, .int .i64 (wrap64 (t182 - 1)), .int .i64 999999, .int .i64 1]) (ok := fun _ => True) (okp := fun _ => True) ?hr ?hp (fun _ hk => hk) trivial (Below.refl _ _) (Nat.le_refl _) (by simp) ?_; (case hd => rfl); (case hg => rfl); (case hr => first | (go_simp; done) | (go_simp; rfl)); (case hp => exact (Reps.one (show Kd.M (Kd.int .i64) _ _ _ a1 [.int .i64 a1] from rfl) (Reps.one (show Kd.M (Kd.int .i64) _ _ _ (wrap64 (t182 - 1)) [.int .i64 (wrap64 (t182 - 1))] from rfl) (Reps.one (show Kd.M (Kd.int .i64) _ _ _ 999999 [.int .i64 999999] from rfl) (Reps.one (show Kd.M (Kd.int .i64) _ _ _ 1 [.int .i64 1] from rfl) (Reps.none _ _)))))); intro v184 w11 ho12 hb hg_ hnew_; clear hg_ hnew_; (first | rw [← Ny183.out] at ho12 | (simp only [Int.reduceToNat] at ho12; rw [← Ny183.out] at ho12)); have n0_ := Aside0.mk (Kd.R_lower ho12 (below_size (by repeat (first | (with_reducible first | exact HB.out | apply below_alloc | apply pw_below_drewN | apply below_drew1) | exact HB.out)))); have n1_ := Aside0.mk (below_step (by repeat (first | (with_reducible first | exact HB.out | apply below_alloc | apply pw_below_drewN | apply below_drew1) | exact HB.out)) hb); clear HB; have HO185 := n0_; have HB := n1_; clear n0_ n1_; clear hb ho12))
      go_loopg [10] k (fun kq v10 w' => ∃ (x10_1 : Int), v10 = .int .i64 x10_1 ∧ Aside0 (damperlaw1_LabelRevs.l0 kq l0 a2 a3 y183 x10_1 = some r) ∧ Aside0 (kq ≤ k) ∧ Aside0 (Kd.R (Kd.int .i64) 3 w' w.heap.size (fun _ => True) v184 y183) ∧ Aside0 (Below w.heap.size w w'))
      case atStart => exact ⟨(0), (by first | rfl | (simp; done) | (simp [*]; done)), H', ⟨Nat.le_refl _⟩, ⟨by (with_reducible repeat (first | apply Kd.R_alloc | apply Kd.R_drewN | apply Kd.R_drew)); exact HO185.out⟩, ⟨by repeat (first | (with_reducible first | exact HB.out | apply below_alloc | apply pw_below_drewN | apply below_drew1) | exact HB.out)⟩⟩
      case round =>
        clear H'
        try clear c1
        try clear p2
        try clear c4
        try clear c6
        try clear p6
        try clear c7
        try clear c7b0
        try clear c7b1
        try clear c10
        try clear c12
        obtain ⟨x10_1, rfl, HA, HK1, HO_9, HB⟩ := hrel
        cases gk with
        | zero => exact absurd HA.out (by simp [damperlaw1_LabelRevs.l0])
        | succ k1 =>
          have H := HA.out
          clear HA
          simp only [damperlaw1_LabelRevs.l0] at H
          by_cases c13 : x10_1 < (y183.length : Int)
          · rw [if_pos c13] at H
            have c13b0 : decide (x10_1 < (y183.length : Int)) = true := decide_eq_true c13
            clear c13
            replace H := Option.bind_eq_some_iff.mp H
            obtain ⟨t186, A140, H⟩ := H
            replace H : (if 0 ≤ x10_1 then ((label_Rev.f k1 t186 (rd y183 x10_1)).bind fun t188 => ((damperlaw1_Text.f k1 l0).bind fun t189 => ((damperref1_Rev.f k1 t189 (rd y183 x10_1)).bind fun t191 => (if t188.toList = t191.toList then (if 1 + a2.size ≤ 9223372036854775807 then ((label_Rev.f k1 ((⟨#[97]⟩ : ByteArray) ++ a2) (rd y183 x10_1)).bind fun t193 => ((damperref1_Rev.f k1 ((⟨#[97]⟩ : ByteArray) ++ a2) (rd y183 x10_1)).bind fun t195 => (if t193.toList = t195.toList then (damperlaw1_LabelRevs.l0 k1 l0 a2 a3 y183 (wrap64 (x10_1 + 1))) else (some false)))) else (none)) else (some false))))) else (none)) = some r := H
            have A14 := Aside0.mk A140
            clear A140
            by_cases c15 : 0 ≤ x10_1
            rotate_left
            · rw [if_neg c15] at H
              exact absurd H (by simp)
            rw [if_pos c15] at H
            have c15b0 : decide (0 ≤ x10_1) = true := decide_eq_true c15
            clear c15
            replace H := Option.bind_eq_some_iff.mp H
            obtain ⟨t188, A160, H⟩ := H
            replace H : ((damperlaw1_Text.f k1 l0).bind fun t189 => ((damperref1_Rev.f k1 t189 (rd y183 x10_1)).bind fun t191 => (if t188.toList = t191.toList then (if 1 + a2.size ≤ 9223372036854775807 then ((label_Rev.f k1 ((⟨#[97]⟩ : ByteArray) ++ a2) (rd y183 x10_1)).bind fun t193 => ((damperref1_Rev.f k1 ((⟨#[97]⟩ : ByteArray) ++ a2) (rd y183 x10_1)).bind fun t195 => (if t193.toList = t195.toList then (damperlaw1_LabelRevs.l0 k1 l0 a2 a3 y183 (wrap64 (x10_1 + 1))) else (some false)))) else (none)) else (some false)))) = some r := H
            have A16 := Aside0.mk A160
            clear A160
            replace H := Option.bind_eq_some_iff.mp H
            obtain ⟨t189, A170, H⟩ := H
            replace H : ((damperref1_Rev.f k1 t189 (rd y183 x10_1)).bind fun t191 => (if t188.toList = t191.toList then (if 1 + a2.size ≤ 9223372036854775807 then ((label_Rev.f k1 ((⟨#[97]⟩ : ByteArray) ++ a2) (rd y183 x10_1)).bind fun t193 => ((damperref1_Rev.f k1 ((⟨#[97]⟩ : ByteArray) ++ a2) (rd y183 x10_1)).bind fun t195 => (if t193.toList = t195.toList then (damperlaw1_LabelRevs.l0 k1 l0 a2 a3 y183 (wrap64 (x10_1 + 1))) else (some false)))) else (none)) else (some false))) = some r := H
            have A17 := Aside0.mk A170
            clear A170
            replace H := Option.bind_eq_some_iff.mp H
            obtain ⟨t191, A180, H⟩ := H
            replace H : (if t188.toList = t191.toList then (if 1 + a2.size ≤ 9223372036854775807 then ((label_Rev.f k1 ((⟨#[97]⟩ : ByteArray) ++ a2) (rd y183 x10_1)).bind fun t193 => ((damperref1_Rev.f k1 ((⟨#[97]⟩ : ByteArray) ++ a2) (rd y183 x10_1)).bind fun t195 => (if t193.toList = t195.toList then (damperlaw1_LabelRevs.l0 k1 l0 a2 a3 y183 (wrap64 (x10_1 + 1))) else (some false)))) else (none)) else (some false)) = some r := H
            have A18 := Aside0.mk A180
            clear A180
            by_cases c19 : t188.toList = t191.toList
            · rw [if_pos c19] at H
              have c19b0 : (t188.toList == t191.toList) = true := beq_iff_eq.mpr c19
              have c19b1 : (t188.toList != t191.toList) = false := bne_eq_false_iff_eq.mpr c19
              clear c19
              by_cases c20 : 1 + a2.size ≤ 9223372036854775807
              rotate_left
              · rw [if_neg c20] at H
                exact absurd H (by simp)
              rw [if_pos c20] at H
              have c20b0 := eq_true c20
              have c20b1 : decide (1 + a2.size ≤ 9223372036854775807) = true := decide_eq_true c20
              try have c20b2 : (9223372036854775807 < 1 + a2.size) = False := eq_false (Nat.not_lt.2 c20)
              try (have c20b4 := c20; simp at c20b4; have c20b5 := eq_false (Nat.not_lt.2 c20b4))
              replace H := Option.bind_eq_some_iff.mp H
              obtain ⟨t193, A210, H⟩ := H
              replace H : ((damperref1_Rev.f k1 ((⟨#[97]⟩ : ByteArray) ++ a2) (rd y183 x10_1)).bind fun t195 => (if t193.toList = t195.toList then (damperlaw1_LabelRevs.l0 k1 l0 a2 a3 y183 (wrap64 (x10_1 + 1))) else (some false))) = some r := H
              have A21 := Aside0.mk A210
              clear A210
              replace H := Option.bind_eq_some_iff.mp H
              obtain ⟨t195, A220, H⟩ := H
              replace H : (if t193.toList = t195.toList then (damperlaw1_LabelRevs.l0 k1 l0 a2 a3 y183 (wrap64 (x10_1 + 1))) else (some false)) = some r := H
              have A22 := Aside0.mk A220
              clear A220
              by_cases c23 : t193.toList = t195.toList
              rotate_left
              · rw [if_neg c23] at H
                have c23b0 : (t193.toList == t195.toList) = false := beq_eq_false_iff_ne.mpr c23
                have c23b1 : (t193.toList != t195.toList) = true := bne_iff_ne.mpr c23
                exact absurd (Option.some.inj H) (by rw [hr0_.out]; decide)
              rw [if_pos c23] at H
              have c23b0 : (t193.toList == t195.toList) = true := beq_iff_eq.mpr c23
              have c23b1 : (t193.toList != t195.toList) = false := bne_eq_false_iff_eq.mpr c23
              clear c23
              have H' := Aside0.mk H
              clear H
              obtain ⟨Ao24, co24, eo24⟩ := Kd.R_slice HO_9.out
              subst eo24
              try go_wp2
              replace HO_9 := Aside0.mk (Kd.R_drew HO_9.out)
              replace HB := Aside0.mk (below_drew1 HB.out)
              have p187 : 0 ≤ (x10_1 : Int) := of_decide_eq_true (by first | (with_reducible assumption) | assumption)
              have q187 : x10_1 < (y183.length : Int) := of_decide_eq_true (by first | (with_reducible assumption) | assumption)
              obtain ⟨ad187, e187, hx187_0⟩ := Kd.at_int (Kd.R_reads' HO_9.out).2.2 x10_1 p187 q187
              cases e187
              replace p187 := eq_true p187
              replace q187 := eq_true q187
              have p190 : 0 ≤ (x10_1 : Int) := of_decide_eq_true (by first | (with_reducible assumption) | assumption)
              have q190 : x10_1 < (y183.length : Int) := of_decide_eq_true (by first | (with_reducible assumption) | assumption)
              obtain ⟨ad190, e190, hx190_0⟩ := Kd.at_int (Kd.R_reads' HO_9.out).2.2 x10_1 p190 q190
              obtain rfl : ad187 = ad190 := (by injection e190)
              replace p190 := eq_true p190
              replace q190 := eq_true q190
              have p192 : 0 ≤ (x10_1 : Int) := of_decide_eq_true (by first | (with_reducible assumption) | assumption)
              have q192 : x10_1 < (y183.length : Int) := of_decide_eq_true (by first | (with_reducible assumption) | assumption)
              obtain ⟨ad192, e192, hx192_0⟩ := Kd.at_int (Kd.R_reads' HO_9.out).2.2 x10_1 p192 q192
              obtain rfl : ad187 = ad192 := (by injection e192)
              replace p192 := eq_true p192
              replace q192 := eq_true q192
              have p194 : 0 ≤ (x10_1 : Int) := of_decide_eq_true (by first | (with_reducible assumption) | assumption)
              have q194 : x10_1 < (y183.length : Int) := of_decide_eq_true (by first | (with_reducible assumption) | assumption)
              obtain ⟨ad194, e194, hx194_0⟩ := Kd.at_int (Kd.R_reads' HO_9.out).2.2 x10_1 p194 q194
              obtain rfl : ad187 = ad194 := (by injection e194)
              replace p194 := eq_true p194
              replace q194 := eq_true q194
              refine start_ (n := 32) (S := fun w' => w'.cell? (ad187.add (x10_1).toNat) = some (.int .i64 (rd y183 x10_1)) ∧ w'.cell? (ad187.add (x10_1).toNat) = some (.int .i64 (rd y183 x10_1)) ∧ w'.cell? (ad187.add (x10_1).toNat) = some (.int .i64 (rd y183 x10_1)) ∧ w'.cell? (ad187.add (x10_1).toNat) = some (.int .i64 (rd y183 x10_1))) (ds := []) #[false, false, false, false, false, false, false, false, false, false, false, false, false, false, false, false, false, false, false, false, false, false, false, false, false, false, false, false, false, false, false, false] (by kernel_rfl) rfl rfl ⟨hx187_0, hx190_0, hx192_0, hx194_0⟩ (fun hHeld => ?_); refine with_tabW damperlaw1_LabelRevs.tab9 damperlaw1_LabelRevs.bits9 (fun HT_ HW_ => ?_)
              generalize wr.drew = w25 at HO_9 HB hx187_0 hx190_0 hx192_0 hx194_0 hHeld ⊢
              refine pure_ (i := 0) (N := some 35) (v := ?_) (a' := ?_) #[true, false, false, false, false, false, false, false, false, false, false, false, false, false, false, false, false, false, false, false, false, false, false, false, false, false, false, false, false, false, false, false] rfl rfl (any_of HT_.out (by kernel_rfl)) (fun _ _ _ h => h) (Or.inl ⟨by rfl, ?_⟩) ?_ ?_
              rotate_left
              · intro w'
                go_simp
                with_reducible rfl
              rotate_left
              · simp only [Act.put, List.setIfInBounds_toArray, List.set_cons_zero, List.set_cons_succ, i64_w, i32_w]
                rfl
              refine pure_ (i := 2) (N := some 37) (v := ?_) (a' := ?_) #[true, false, true, false, false, false, false, false, false, false, false, false, false, false, false, false, false, false, false, false, false, false, false, false, false, false, false, false, false, false, false, false] rfl rfl (any_of HT_.out (by kernel_rfl)) (fun _ _ _ h => h) (Or.inl ⟨by rfl, ?_⟩) ?_ ?_
              rotate_left
              · intro w'
                go_simp
                with_reducible rfl
              rotate_left
              · simp only [Act.put, List.setIfInBounds_toArray, List.set_cons_zero, List.set_cons_succ, i64_w, i32_w]
                rfl
              refine pure_ (i := 3) (N := some 38) (v := ?_) (a' := ?_) #[true, false, true, true, false, false, false, false, false, false, false, false, false, false, false, false, false, false, false, false, false, false, false, false, false, false, false, false, false, false, false, false] rfl rfl (any_of HT_.out (by kernel_rfl)) (fun _ _ _ h => h) (Or.inl ⟨by rfl, ?_⟩) ?_ ?_
              rotate_left
              · intro w'
                go_simp
                with_reducible rfl
              rotate_left
              · simp only [Act.put, List.setIfInBounds_toArray, List.set_cons_zero, List.set_cons_succ, i64_w, i32_w]
                rfl
              refine pure_ (i := 4) (N := some 39) (v := ?_) (a' := ?_) #[true, false, true, true, true, false, false, false, false, false, false, false, false, false, false, false, false, false, false, false, false, false, false, false, false, false, false, false, false, false, false, false] rfl rfl (any_of HT_.out (by kernel_rfl)) (fun _ _ _ h => h) (Or.inl ⟨by rfl, ?_⟩) ?_ ?_
              rotate_left
              · intro w'
                go_simp
                with_reducible rfl
              rotate_left
              · simp only [Act.put, List.setIfInBounds_toArray, List.set_cons_zero, List.set_cons_succ, i64_w, i32_w]
                rfl
              refine pure_ (i := 7) (N := some 42) (v := ?_) (a' := ?_) #[true, false, true, true, true, false, false, true, false, false, false, false, false, false, false, false, false, false, false, false, false, false, false, false, false, false, false, false, false, false, false, false] rfl rfl (any_of HT_.out (by kernel_rfl)) (fun _ _ _ h => h) (Or.inl ⟨by rfl, ?_⟩) ?_ ?_
              rotate_left
              · intro w'
                go_simp
                with_reducible rfl
              rotate_left
              · simp only [Act.put, List.setIfInBounds_toArray, List.set_cons_zero, List.set_cons_succ, i64_w, i32_w]
                rfl
              refine pure_ (i := 9) (N := some 44) (v := ?_) (a' := ?_) #[true, false, true, true, true, false, false, true, false, true, false, false, false, false, false, false, false, false, false, false, false, false, false, false, false, false, false, false, false, false, false, false] rfl rfl (any_of HT_.out (by kernel_rfl)) (fun _ _ _ h => h) (Or.inl ⟨by rfl, ?_⟩) ?_ ?_
              rotate_left
              · intro w'
                go_simp
                with_reducible rfl
              rotate_left
              · simp only [Act.put, List.setIfInBounds_toArray, List.set_cons_zero, List.set_cons_succ, i64_w, i32_w]
                rfl
              refine pure_ (i := 10) (N := some 45) (v := ?_) (a' := ?_) #[true, false, true, true, true, false, false, true, false, true, true, false, false, false, false, false, false, false, false, false, false, false, false, false, false, false, false, false, false, false, false, false] rfl rfl (any_of HT_.out (by kernel_rfl)) (fun _ _ _ h => h) (Or.inl ⟨by rfl, ?_⟩) ?_ ?_
              rotate_left
              · intro w'
                go_simp
                with_reducible rfl
              rotate_left
              · simp only [Act.put, List.setIfInBounds_toArray, List.set_cons_zero, List.set_cons_succ, i64_w, i32_w]
                rfl
              refine pure_ (i := 11) (N := some 46) (v := ?_) (a' := ?_) #[true, false, true, true, true, false, false, true, false, true, true, true, false, false, false, false, false, false, false, false, false, false, false, false, false, false, false, false, false, false, false, false] rfl rfl (any_of HT_.out (by kernel_rfl)) (fun _ _ _ h => h) (Or.inl ⟨by rfl, ?_⟩) ?_ ?_
              rotate_left
              · intro w'
                go_simp
                with_reducible rfl
              rotate_left
              · simp only [Act.put, List.setIfInBounds_toArray, List.set_cons_zero, List.set_cons_succ, i64_w, i32_w]
                rfl
              refine take_ (i := 5) (N := some 40) (v := ?_) (a' := ?_) #[true, false, true, true, true, true, false, true, false, true, true, true, false, false, false, false, false, false, false, false, false, false, false, false, false, false, false, false, false, false, false, false] rfl rfl (take_ofW HT_.out HW_.out (by kernel_rfl)) (fun _ _ _ h => h) (Or.inl ⟨by rfl, ?_⟩) hHeld ?_ ?_
              rotate_left
              · rintro w' ⟨s0, s1, s2, s3⟩
                go_simp
                with_reducible rfl
              rotate_left
              · simp only [Act.put, List.setIfInBounds_toArray, List.set_cons_zero, List.set_cons_succ, i64_w, i32_w]
                rfl
              refine take_ (i := 12) (N := some 47) (v := ?_) (a' := ?_) #[true, false, true, true, true, true, false, true, false, true, true, true, true, false, false, false, false, false, false, false, false, false, false, false, false, false, false, false, false, false, false, false] rfl rfl (take_ofW HT_.out HW_.out (by kernel_rfl)) (fun _ _ _ h => h) (Or.inl ⟨by rfl, ?_⟩) hHeld ?_ ?_
              rotate_left
              · rintro w' ⟨s0, s1, s2, s3⟩
                go_simp
                with_reducible rfl
              rotate_left
              · simp only [Act.put, List.setIfInBounds_toArray, List.set_cons_zero, List.set_cons_succ, i64_w, i32_w]
                rfl
              refine one_ (i := 1) (N := some 36) #[true, true, true, true, true, true, false, true, false, true, true, true, true, false, false, false, false, false, false, false, false, false, false, false, false, false, false, false, false, false, false, false] rfl rfl (one_of HT_.out (by kernel_rfl)) (by decide) (fun K hK => ?_)
              refine goes_ Tryd.func11 (by kernel_rfl) rfl #[.slice A0 l0.length c0] (by rfl) rfl rfl (by (try simp only [List.map_toArray, List.map_cons, List.map_nil]); first | done | rfl | (simp only [List.length_drop, List.length_take]; rfl)) ?_
              with_reducible refine (damperlaw1_Text.calls k1 _ _ l0 t186 _ ?side1 ?side2 A14.out).mono ?_
              (case side1 => repeat (first | exact (Kd.C_below HR0.out HB.out) | (with_reducible refine Kd.C_alloc ?_ _) | (with_reducible refine Kd.C_drewN ?_ _) | (with_reducible refine Kd.C_drew ?_)))
              (case side2 => exact HC0.out)
              rintro e w26 ⟨rfl, hb⟩
              have HS0_ := (hb.cell (World.block_lt_of_cell? _ _ (hHeld.1))).trans (hHeld.1)
              have HS1_ := (hb.cell (World.block_lt_of_cell? _ _ (hHeld.2.1))).trans (hHeld.2.1)
              have HS2_ := (hb.cell (World.block_lt_of_cell? _ _ (hHeld.2.2.1))).trans (hHeld.2.2.1)
              have HS3_ := (hb.cell (World.block_lt_of_cell? _ _ (hHeld.2.2.2))).trans (hHeld.2.2.2)
              refine ⟨_, rfl, ?_⟩
              replace HO_9 := Aside0.mk (Kd.R_below (by (with_reducible repeat (first | apply Kd.R_alloc | apply Kd.R_drewN | apply Kd.R_drew)); exact HO_9.out) hb)
              replace HB := Aside0.mk (below_step (by repeat (first | (with_reducible first | exact HB.out | apply below_alloc | apply pw_below_drewN | apply below_drew1) | exact HB.out)) hb)
              (try clear hb)
              (try clear hb2)
              (try clear hk)
              (try clear hi)
              refine hK.out _ _ ⟨HS0_, HS1_, HS2_, HS3_⟩ (fun hHeld => ?_)
              clear hK K
              refine norm_ (a' := ?_) ?_ ?_
              rotate_left
              · show Act.put _ (some 36) _ = _
                simp only [Act.put, List.setIfInBounds_toArray, List.set_cons_zero, List.set_cons_succ, i64_w, i32_w]
                rfl
              refine one_ (i := 6) (N := some 41) #[true, true, true, true, true, true, true, true, false, true, true, true, true, false, false, false, false, false, false, false, false, false, false, false, false, false, false, false, false, false, false, false] rfl rfl (one_of HT_.out (by kernel_rfl)) (by decide) (fun K hK => ?_)
              refine goes_ Tryd.func17 (by kernel_rfl) rfl #[.string t186, .int .i64 (rd y183 x10_1)] (by rfl) rfl rfl (by (try simp only [List.map_toArray, List.map_cons, List.map_nil]); first | done | rfl | (simp only [List.length_drop, List.length_take]; rfl)) ?_
              with_reducible refine (label_Rev.calls k1 t186 (rd y183 x10_1) t188 _ ?side1 A16.out).mono ?_
              (case side1 => first | exact hLd_.out | exact hLd_ | exact ⟨LaidW.below hLd_.out (by repeat (first | (with_reducible first | exact HB.out | apply below_alloc | apply pw_below_drewN | apply below_drew1) | exact HB.out))⟩ | exact ⟨LaidW.below hLd_.out (by repeat (first | exact Below.refl _ _ | apply below_alloc | apply pw_below_drewN | apply below_drew1))⟩)
              rintro e w27 ⟨rfl, hb⟩
              have HS0_ := (hb.cell (World.block_lt_of_cell? _ _ (hHeld.1))).trans (hHeld.1)
              have HS1_ := (hb.cell (World.block_lt_of_cell? _ _ (hHeld.2.1))).trans (hHeld.2.1)
              have HS2_ := (hb.cell (World.block_lt_of_cell? _ _ (hHeld.2.2.1))).trans (hHeld.2.2.1)
              have HS3_ := (hb.cell (World.block_lt_of_cell? _ _ (hHeld.2.2.2))).trans (hHeld.2.2.2)
              refine ⟨_, rfl, ?_⟩
              replace HO_9 := Aside0.mk (Kd.R_below (by (with_reducible repeat (first | apply Kd.R_alloc | apply Kd.R_drewN | apply Kd.R_drew)); exact HO_9.out) hb)
              replace HB := Aside0.mk (below_step (by repeat (first | (with_reducible first | exact HB.out | apply below_alloc | apply pw_below_drewN | apply below_drew1) | exact HB.out)) hb)
              (try clear hb)
              (try clear hb2)
              (try clear hk)
              (try clear hi)
              refine hK.out _ _ ⟨HS0_, HS1_, HS2_, HS3_⟩ (fun hHeld => ?_)
              clear hK K
              refine norm_ (a' := ?_) ?_ ?_
              rotate_left
              · show Act.put _ (some 41) _ = _
                simp only [Act.put, List.setIfInBounds_toArray, List.set_cons_zero, List.set_cons_succ, i64_w, i32_w]
                rfl
              refine one_ (i := 8) (N := some 43) #[true, true, true, true, true, true, true, true, true, true, true, true, true, false, false, false, false, false, false, false, false, false, false, false, false, false, false, false, false, false, false, false] rfl rfl (one_of HT_.out (by kernel_rfl)) (by decide) (fun K hK => ?_)
              refine goes_ Tryd.func11 (by kernel_rfl) rfl #[.slice A0 l0.length c0] (by rfl) rfl rfl (by (try simp only [List.map_toArray, List.map_cons, List.map_nil]); first | done | rfl | (simp only [List.length_drop, List.length_take]; rfl)) ?_
              with_reducible refine (damperlaw1_Text.calls k1 _ _ l0 t189 _ ?side1 ?side2 A17.out).mono ?_
              (case side1 => repeat (first | exact (Kd.C_below HR0.out HB.out) | (with_reducible refine Kd.C_alloc ?_ _) | (with_reducible refine Kd.C_drewN ?_ _) | (with_reducible refine Kd.C_drew ?_)))
              (case side2 => exact HC0.out)
              rintro e w28 ⟨rfl, hb⟩
              have HS0_ := (hb.cell (World.block_lt_of_cell? _ _ (hHeld.1))).trans (hHeld.1)
              have HS1_ := (hb.cell (World.block_lt_of_cell? _ _ (hHeld.2.1))).trans (hHeld.2.1)
              have HS2_ := (hb.cell (World.block_lt_of_cell? _ _ (hHeld.2.2.1))).trans (hHeld.2.2.1)
              have HS3_ := (hb.cell (World.block_lt_of_cell? _ _ (hHeld.2.2.2))).trans (hHeld.2.2.2)
              refine ⟨_, rfl, ?_⟩
              replace HO_9 := Aside0.mk (Kd.R_below (by (with_reducible repeat (first | apply Kd.R_alloc | apply Kd.R_drewN | apply Kd.R_drew)); exact HO_9.out) hb)
              replace HB := Aside0.mk (below_step (by repeat (first | (with_reducible first | exact HB.out | apply below_alloc | apply pw_below_drewN | apply below_drew1) | exact HB.out)) hb)
              (try clear hb)
              (try clear hb2)
              (try clear hk)
              (try clear hi)
              refine hK.out _ _ ⟨HS0_, HS1_, HS2_, HS3_⟩ (fun hHeld => ?_)
              clear hK K
              refine norm_ (a' := ?_) ?_ ?_
              rotate_left
              · show Act.put _ (some 43) _ = _
                simp only [Act.put, List.setIfInBounds_toArray, List.set_cons_zero, List.set_cons_succ, i64_w, i32_w]
                rfl
              refine one_ (i := 13) (N := some 48) #[true, true, true, true, true, true, true, true, true, true, true, true, true, true, false, false, false, false, false, false, false, false, false, false, false, false, false, false, false, false, false, false] rfl rfl (one_of HT_.out (by kernel_rfl)) (by decide) (fun K hK => ?_)
              refine goes_ Tryd.func18 (by kernel_rfl) rfl #[.string t189, .int .i64 (rd y183 x10_1)] (by rfl) rfl rfl (by (try simp only [List.map_toArray, List.map_cons, List.map_nil]); first | done | rfl | (simp only [List.length_drop, List.length_take]; rfl)) ?_
              with_reducible refine (damperref1_Rev.calls k1 t189 (rd y183 x10_1) t191 _ A18.out).mono ?_
              rintro e w29 ⟨rfl, hb⟩
              have HS0_ := (hb.cell (World.block_lt_of_cell? _ _ (hHeld.1))).trans (hHeld.1)
              have HS1_ := (hb.cell (World.block_lt_of_cell? _ _ (hHeld.2.1))).trans (hHeld.2.1)
              have HS2_ := (hb.cell (World.block_lt_of_cell? _ _ (hHeld.2.2.1))).trans (hHeld.2.2.1)
              have HS3_ := (hb.cell (World.block_lt_of_cell? _ _ (hHeld.2.2.2))).trans (hHeld.2.2.2)
              refine ⟨_, rfl, ?_⟩
              replace HO_9 := Aside0.mk (Kd.R_below (by (with_reducible repeat (first | apply Kd.R_alloc | apply Kd.R_drewN | apply Kd.R_drew)); exact HO_9.out) hb)
              replace HB := Aside0.mk (below_step (by repeat (first | (with_reducible first | exact HB.out | apply below_alloc | apply pw_below_drewN | apply below_drew1) | exact HB.out)) hb)
              (try clear hb)
              (try clear hb2)
              (try clear hk)
              (try clear hi)
              refine hK.out _ _ ⟨HS0_, HS1_, HS2_, HS3_⟩ (fun hHeld => ?_)
              clear hK K
              refine norm_ (a' := ?_) ?_ ?_
              rotate_left
              · show Act.put _ (some 48) _ = _
                simp only [Act.put, List.setIfInBounds_toArray, List.set_cons_zero, List.set_cons_succ, i64_w, i32_w]
                rfl
              refine pure_ (i := 14) (N := some 49) (v := ?_) (a' := ?_) #[true, true, true, true, true, true, true, true, true, true, true, true, true, true, true, false, false, false, false, false, false, false, false, false, false, false, false, false, false, false, false, false] rfl rfl (any_of HT_.out (by kernel_rfl)) (fun _ _ _ h => h) (Or.inl ⟨by rfl, ?_⟩) ?_ ?_
              rotate_left
              · intro w'
                go_simp
                with_reducible rfl
              rotate_left
              · simp only [Act.put, List.setIfInBounds_toArray, List.set_cons_zero, List.set_cons_succ, i64_w, i32_w]
                rfl
              refine pure_ (i := 15) (N := some 50) (v := ?_) (a' := ?_) #[true, true, true, true, true, true, true, true, true, true, true, true, true, true, true, true, false, false, false, false, false, false, false, false, false, false, false, false, false, false, false, false] rfl rfl (any_of HT_.out (by kernel_rfl)) (fun _ _ _ h => h) (Or.inl ⟨by rfl, ?_⟩) ?_ ?_
              rotate_left
              · intro w'
                go_simp
                with_reducible rfl
              rotate_left
              · simp only [Act.put, List.setIfInBounds_toArray, List.set_cons_zero, List.set_cons_succ, i64_w, i32_w]
                rfl
              refine pure_ (i := 16) (N := some 51) (v := ?_) (a' := ?_) #[true, true, true, true, true, true, true, true, true, true, true, true, true, true, true, true, true, false, false, false, false, false, false, false, false, false, false, false, false, false, false, false] rfl rfl (any_of HT_.out (by kernel_rfl)) (fun _ _ _ h => h) (Or.inl ⟨by rfl, ?_⟩) ?_ ?_
              rotate_left
              · intro w'
                go_simp
                with_reducible rfl
              rotate_left
              · simp only [Act.put, List.setIfInBounds_toArray, List.set_cons_zero, List.set_cons_succ, i64_w, i32_w]
                rfl
              refine pure_ (i := 17) (N := some 52) (v := ?_) (a' := ?_) #[true, true, true, true, true, true, true, true, true, true, true, true, true, true, true, true, true, true, false, false, false, false, false, false, false, false, false, false, false, false, false, false] rfl rfl (any_of HT_.out (by kernel_rfl)) (fun _ _ _ h => h) (Or.inl ⟨by rfl, ?_⟩) ?_ ?_
              rotate_left
              · intro w'
                go_simp
                with_reducible rfl
              rotate_left
              · simp only [Act.put, List.setIfInBounds_toArray, List.set_cons_zero, List.set_cons_succ, i64_w, i32_w]
                rfl
              refine pure_ (i := 18) (N := some 53) (v := ?_) (a' := ?_) #[true, true, true, true, true, true, true, true, true, true, true, true, true, true, true, true, true, true, true, false, false, false, false, false, false, false, false, false, false, false, false, false] rfl rfl (any_of HT_.out (by kernel_rfl)) (fun _ _ _ h => h) (Or.inl ⟨by rfl, ?_⟩) ?_ ?_
              rotate_left
              · intro w'
                go_simp
                with_reducible rfl
              rotate_left
              · simp only [Act.put, List.setIfInBounds_toArray, List.set_cons_zero, List.set_cons_succ, i64_w, i32_w]
                rfl
              refine pure_ (i := 19) (N := some 54) (v := ?_) (a' := ?_) #[true, true, true, true, true, true, true, true, true, true, true, true, true, true, true, true, true, true, true, true, false, false, false, false, false, false, false, false, false, false, false, false] rfl rfl (any_of HT_.out (by kernel_rfl)) (fun _ _ _ h => h) (Or.inl ⟨by rfl, ?_⟩) ?_ ?_
              rotate_left
              · intro w'
                go_simp
                with_reducible rfl
              rotate_left
              · simp only [Act.put, List.setIfInBounds_toArray, List.set_cons_zero, List.set_cons_succ, i64_w, i32_w]
                rfl
              refine pure_ (i := 20) (N := some 55) (v := ?_) (a' := ?_) #[true, true, true, true, true, true, true, true, true, true, true, true, true, true, true, true, true, true, true, true, true, false, false, false, false, false, false, false, false, false, false, false] rfl rfl (any_of HT_.out (by kernel_rfl)) (fun _ _ _ h => h) (Or.inl ⟨by rfl, ?_⟩) ?_ ?_
              rotate_left
              · intro w'
                go_simp
                with_reducible rfl
              rotate_left
              · simp only [Act.put, List.setIfInBounds_toArray, List.set_cons_zero, List.set_cons_succ, i64_w, i32_w]
                rfl
              refine pure_ (i := 23) (N := some 58) (v := ?_) (a' := ?_) #[true, true, true, true, true, true, true, true, true, true, true, true, true, true, true, true, true, true, true, true, true, false, false, true, false, false, false, false, false, false, false, false] rfl rfl (any_of HT_.out (by kernel_rfl)) (fun _ _ _ h => h) (Or.inl ⟨by rfl, ?_⟩) ?_ ?_
              rotate_left
              · intro w'
                go_simp
                with_reducible rfl
              rotate_left
              · simp only [Act.put, List.setIfInBounds_toArray, List.set_cons_zero, List.set_cons_succ, i64_w, i32_w]
                rfl
              refine pure_ (i := 24) (N := some 59) (v := ?_) (a' := ?_) #[true, true, true, true, true, true, true, true, true, true, true, true, true, true, true, true, true, true, true, true, true, false, false, true, true, false, false, false, false, false, false, false] rfl rfl (any_of HT_.out (by kernel_rfl)) (fun _ _ _ h => h) (Or.inl ⟨by rfl, ?_⟩) ?_ ?_
              rotate_left
              · intro w'
                go_simp
                with_reducible rfl
              rotate_left
              · simp only [Act.put, List.setIfInBounds_toArray, List.set_cons_zero, List.set_cons_succ, i64_w, i32_w]
                rfl
              refine pure_ (i := 25) (N := some 60) (v := ?_) (a' := ?_) #[true, true, true, true, true, true, true, true, true, true, true, true, true, true, true, true, true, true, true, true, true, false, false, true, true, true, false, false, false, false, false, false] rfl rfl (any_of HT_.out (by kernel_rfl)) (fun _ _ _ h => h) (Or.inl ⟨by rfl, ?_⟩) ?_ ?_
              rotate_left
              · intro w'
                go_simp
                with_reducible rfl
              rotate_left
              · simp only [Act.put, List.setIfInBounds_toArray, List.set_cons_zero, List.set_cons_succ, i64_w, i32_w]
                rfl
              refine pure_ (i := 26) (N := some 61) (v := ?_) (a' := ?_) #[true, true, true, true, true, true, true, true, true, true, true, true, true, true, true, true, true, true, true, true, true, false, false, true, true, true, true, false, false, false, false, false] rfl rfl (any_of HT_.out (by kernel_rfl)) (fun _ _ _ h => h) (Or.inl ⟨by rfl, ?_⟩) ?_ ?_
              rotate_left
              · intro w'
                go_simp
                with_reducible rfl
              rotate_left
              · simp only [Act.put, List.setIfInBounds_toArray, List.set_cons_zero, List.set_cons_succ, i64_w, i32_w]
                rfl
              refine pure_ (i := 27) (N := some 62) (v := ?_) (a' := ?_) #[true, true, true, true, true, true, true, true, true, true, true, true, true, true, true, true, true, true, true, true, true, false, false, true, true, true, true, true, false, false, false, false] rfl rfl (any_of HT_.out (by kernel_rfl)) (fun _ _ _ h => h) (Or.inl ⟨by rfl, ?_⟩) ?_ ?_
              rotate_left
              · intro w'
                go_simp
                with_reducible rfl
              rotate_left
              · simp only [Act.put, List.setIfInBounds_toArray, List.set_cons_zero, List.set_cons_succ, i64_w, i32_w]
                rfl
              refine take_ (i := 21) (N := some 56) (v := ?_) (a' := ?_) #[true, true, true, true, true, true, true, true, true, true, true, true, true, true, true, true, true, true, true, true, true, true, false, true, true, true, true, true, false, false, false, false] rfl rfl (take_ofW HT_.out HW_.out (by kernel_rfl)) (fun _ _ _ h => h) (Or.inl ⟨by rfl, ?_⟩) hHeld ?_ ?_
              rotate_left
              · rintro w' ⟨s0, s1, s2, s3⟩
                go_simp
                with_reducible rfl
              rotate_left
              · simp only [Act.put, List.setIfInBounds_toArray, List.set_cons_zero, List.set_cons_succ, i64_w, i32_w]
                rfl
              refine take_ (i := 28) (N := some 63) (v := ?_) (a' := ?_) #[true, true, true, true, true, true, true, true, true, true, true, true, true, true, true, true, true, true, true, true, true, true, false, true, true, true, true, true, true, false, false, false] rfl rfl (take_ofW HT_.out HW_.out (by kernel_rfl)) (fun _ _ _ h => h) (Or.inl ⟨by rfl, ?_⟩) hHeld ?_ ?_
              rotate_left
              · rintro w' ⟨s0, s1, s2, s3⟩
                go_simp
                with_reducible rfl
              rotate_left
              · simp only [Act.put, List.setIfInBounds_toArray, List.set_cons_zero, List.set_cons_succ, i64_w, i32_w]
                rfl
              refine one_ (i := 22) (N := some 57) #[true, true, true, true, true, true, true, true, true, true, true, true, true, true, true, true, true, true, true, true, true, true, true, true, true, true, true, true, true, false, false, false] rfl rfl (one_of HT_.out (by kernel_rfl)) (by decide) (fun K hK => ?_)
              refine goes_ Tryd.func17 (by kernel_rfl) rfl #[.string ((⟨#[97]⟩ : ByteArray) ++ a2), .int .i64 (rd y183 x10_1)] (by rfl) rfl rfl (by (try simp only [List.map_toArray, List.map_cons, List.map_nil]); first | done | rfl | (simp only [List.length_drop, List.length_take]; rfl)) ?_
              with_reducible refine (label_Rev.calls k1 ((⟨#[97]⟩ : ByteArray) ++ a2) (rd y183 x10_1) t193 _ ?side1 A21.out).mono ?_
              (case side1 => first | exact hLd_.out | exact hLd_ | exact ⟨LaidW.below hLd_.out (by repeat (first | (with_reducible first | exact HB.out | apply below_alloc | apply pw_below_drewN | apply below_drew1) | exact HB.out))⟩ | exact ⟨LaidW.below hLd_.out (by repeat (first | exact Below.refl _ _ | apply below_alloc | apply pw_below_drewN | apply below_drew1))⟩)
              rintro e w30 ⟨rfl, hb⟩
              have HS0_ := (hb.cell (World.block_lt_of_cell? _ _ (hHeld.1))).trans (hHeld.1)
              have HS1_ := (hb.cell (World.block_lt_of_cell? _ _ (hHeld.2.1))).trans (hHeld.2.1)
              have HS2_ := (hb.cell (World.block_lt_of_cell? _ _ (hHeld.2.2.1))).trans (hHeld.2.2.1)
              have HS3_ := (hb.cell (World.block_lt_of_cell? _ _ (hHeld.2.2.2))).trans (hHeld.2.2.2)
              refine ⟨_, rfl, ?_⟩
              replace HO_9 := Aside0.mk (Kd.R_below (by (with_reducible repeat (first | apply Kd.R_alloc | apply Kd.R_drewN | apply Kd.R_drew)); exact HO_9.out) hb)
              replace HB := Aside0.mk (below_step (by repeat (first | (with_reducible first | exact HB.out | apply below_alloc | apply pw_below_drewN | apply below_drew1) | exact HB.out)) hb)
              (try clear hb)
              (try clear hb2)
              (try clear hk)
              (try clear hi)
              refine hK.out _ _ ⟨HS0_, HS1_, HS2_, HS3_⟩ (fun hHeld => ?_)
              clear hK K
              refine norm_ (a' := ?_) ?_ ?_
              rotate_left
              · show Act.put _ (some 57) _ = _
                simp only [Act.put, List.setIfInBounds_toArray, List.set_cons_zero, List.set_cons_succ, i64_w, i32_w]
                rfl
              refine one_ (i := 29) (N := some 64) #[true, true, true, true, true, true, true, true, true, true, true, true, true, true, true, true, true, true, true, true, true, true, true, true, true, true, true, true, true, true, false, false] rfl rfl (one_of HT_.out (by kernel_rfl)) (by decide) (fun K hK => ?_)
              refine goes_ Tryd.func18 (by kernel_rfl) rfl #[.string ((⟨#[97]⟩ : ByteArray) ++ a2), .int .i64 (rd y183 x10_1)] (by rfl) rfl rfl (by (try simp only [List.map_toArray, List.map_cons, List.map_nil]); first | done | rfl | (simp only [List.length_drop, List.length_take]; rfl)) ?_
              with_reducible refine (damperref1_Rev.calls k1 ((⟨#[97]⟩ : ByteArray) ++ a2) (rd y183 x10_1) t195 _ A22.out).mono ?_
              rintro e w31 ⟨rfl, hb⟩
              have HS0_ := (hb.cell (World.block_lt_of_cell? _ _ (hHeld.1))).trans (hHeld.1)
              have HS1_ := (hb.cell (World.block_lt_of_cell? _ _ (hHeld.2.1))).trans (hHeld.2.1)
              have HS2_ := (hb.cell (World.block_lt_of_cell? _ _ (hHeld.2.2.1))).trans (hHeld.2.2.1)
              have HS3_ := (hb.cell (World.block_lt_of_cell? _ _ (hHeld.2.2.2))).trans (hHeld.2.2.2)
              refine ⟨_, rfl, ?_⟩
              replace HO_9 := Aside0.mk (Kd.R_below (by (with_reducible repeat (first | apply Kd.R_alloc | apply Kd.R_drewN | apply Kd.R_drew)); exact HO_9.out) hb)
              replace HB := Aside0.mk (below_step (by repeat (first | (with_reducible first | exact HB.out | apply below_alloc | apply pw_below_drewN | apply below_drew1) | exact HB.out)) hb)
              (try clear hb)
              (try clear hb2)
              (try clear hk)
              (try clear hi)
              refine hK.out _ _ ⟨HS0_, HS1_, HS2_, HS3_⟩ (fun hHeld => ?_)
              clear hK K
              refine norm_ (a' := ?_) ?_ ?_
              rotate_left
              · show Act.put _ (some 64) _ = _
                simp only [Act.put, List.setIfInBounds_toArray, List.set_cons_zero, List.set_cons_succ, i64_w, i32_w]
                rfl
              refine pure_ (i := 30) (N := some 65) (v := ?_) (a' := ?_) #[true, true, true, true, true, true, true, true, true, true, true, true, true, true, true, true, true, true, true, true, true, true, true, true, true, true, true, true, true, true, true, false] rfl rfl (any_of HT_.out (by kernel_rfl)) (fun _ _ _ h => h) (Or.inl ⟨by rfl, ?_⟩) ?_ ?_
              rotate_left
              · intro w'
                go_simp
                with_reducible rfl
              rotate_left
              · simp only [Act.put, List.setIfInBounds_toArray, List.set_cons_zero, List.set_cons_succ, i64_w, i32_w]
                rfl
              refine pure_ (i := 31) (N := some 66) (v := ?_) (a' := ?_) #[true, true, true, true, true, true, true, true, true, true, true, true, true, true, true, true, true, true, true, true, true, true, true, true, true, true, true, true, true, true, true, true] rfl rfl (any_of HT_.out (by kernel_rfl)) (fun _ _ _ h => h) (Or.inl ⟨by rfl, ?_⟩) ?_ ?_
              rotate_left
              · intro w'
                go_simp
                with_reducible rfl
              rotate_left
              · simp only [Act.put, List.setIfInBounds_toArray, List.set_cons_zero, List.set_cons_succ, i64_w, i32_w]
                rfl
              refine done_ (done_of HT_.out (by kernel_rfl)) ?_
              try go_wp2
              go_roundg k1
              case measure => have := HK1.out; omega
              case rel => exact ⟨(wrap64 (x10_1 + 1)), (by first | rfl | (simp; done) | (simp [*]; done)), H', ⟨by have := HK1.out; omega⟩, ⟨by (with_reducible repeat (first | apply Kd.R_alloc | apply Kd.R_drewN | apply Kd.R_drew)); exact HO_9.out⟩, ⟨by repeat (first | (with_reducible first | exact HB.out | apply below_alloc | apply pw_below_drewN | apply below_drew1) | exact HB.out)⟩⟩
            · rw [if_neg c19] at H
              have c19b0 : (t188.toList == t191.toList) = false := beq_eq_false_iff_ne.mpr c19
              have c19b1 : (t188.toList != t191.toList) = true := bne_iff_ne.mpr c19
              exact absurd (Option.some.inj H) (by rw [hr0_.out]; decide)
          · rw [if_neg c13] at H
            have c13b0 : decide (x10_1 < (y183.length : Int)) = false := decide_eq_false c13
            clear c13
            replace H := Option.bind_eq_some_iff.mp H
            obtain ⟨t196, A320, H⟩ := H
            replace H : (if 4 + a2.size ≤ 9223372036854775807 then ((damperlaw1_Text.f k1 l0).bind fun t197 => (if t197.size + 1 ≤ 9223372036854775807 then ((damperlaw1_within.f a3 20000000).bind fun t198 => ((damperref1_Digits.f k1 t198).bind fun t199 => (if (t197 ++ (⟨#[45]⟩ : ByteArray)).size + t199.size ≤ 9223372036854775807 then (damperlaw1_LabelRevs.l1 k1 (([t196, a2, (⟨#[119, 101, 98, 45]⟩ : ByteArray) ++ a2, (t197 ++ (⟨#[45]⟩ : ByteArray)) ++ t199, (⟨#[97, 45, 48]⟩ : ByteArray), (⟨#[97, 45, 48, 49]⟩ : ByteArray), (⟨#[97, 45, 49, 45, 50]⟩ : ByteArray), (⟨#[97, 45, 45, 49]⟩ : ByteArray), (⟨#[45, 49]⟩ : ByteArray), (⟨#[97, 45]⟩ : ByteArray), (⟨#[49, 45, 49]⟩ : ByteArray), (⟨#[97, 45, 49, 50, 51, 52, 53, 54, 55]⟩ : ByteArray), (⟨#[97, 45, 49, 50, 51, 52, 53, 54, 55, 56, 57, 48, 49, 50, 51, 52, 53, 54, 55, 56, 57, 48]⟩ : ByteArray)] : List ByteArray)) 0) else (none)))) else (none))) else (none)) = some r := H
            have A32 := Aside0.mk A320
            clear A320
            by_cases c33 : 4 + a2.size ≤ 9223372036854775807
            rotate_left
            · rw [if_neg c33] at H
              exact absurd H (by simp)
            rw [if_pos c33] at H
            have c33b0 := eq_true c33
            have c33b1 : decide (4 + a2.size ≤ 9223372036854775807) = true := decide_eq_true c33
            try have c33b2 : (9223372036854775807 < 4 + a2.size) = False := eq_false (Nat.not_lt.2 c33)
            try (have c33b4 := c33; simp at c33b4; have c33b5 := eq_false (Nat.not_lt.2 c33b4))
            replace H := Option.bind_eq_some_iff.mp H
            obtain ⟨t197, A340, H⟩ := H
            replace H : (if t197.size + 1 ≤ 9223372036854775807 then ((damperlaw1_within.f a3 20000000).bind fun t198 => ((damperref1_Digits.f k1 t198).bind fun t199 => (if (t197 ++ (⟨#[45]⟩ : ByteArray)).size + t199.size ≤ 9223372036854775807 then (damperlaw1_LabelRevs.l1 k1 (([t196, a2, (⟨#[119, 101, 98, 45]⟩ : ByteArray) ++ a2, (t197 ++ (⟨#[45]⟩ : ByteArray)) ++ t199, (⟨#[97, 45, 48]⟩ : ByteArray), (⟨#[97, 45, 48, 49]⟩ : ByteArray), (⟨#[97, 45, 49, 45, 50]⟩ : ByteArray), (⟨#[97, 45, 45, 49]⟩ : ByteArray), (⟨#[45, 49]⟩ : ByteArray), (⟨#[97, 45]⟩ : ByteArray), (⟨#[49, 45, 49]⟩ : ByteArray), (⟨#[97, 45, 49, 50, 51, 52, 53, 54, 55]⟩ : ByteArray), (⟨#[97, 45, 49, 50, 51, 52, 53, 54, 55, 56, 57, 48, 49, 50, 51, 52, 53, 54, 55, 56, 57, 48]⟩ : ByteArray)] : List ByteArray)) 0) else (none)))) else (none)) = some r := H
            have A34 := Aside0.mk A340
            clear A340
            by_cases c35 : t197.size + 1 ≤ 9223372036854775807
            rotate_left
            · rw [if_neg c35] at H
              exact absurd H (by simp)
            rw [if_pos c35] at H
            have c35b0 := eq_true c35
            have c35b1 : decide (t197.size + 1 ≤ 9223372036854775807) = true := decide_eq_true c35
            try have c35b2 : (9223372036854775807 < t197.size + 1) = False := eq_false (Nat.not_lt.2 c35)
            try (have c35b4 := c35; simp at c35b4; have c35b5 := eq_false (Nat.not_lt.2 c35b4))
            replace H := Option.bind_eq_some_iff.mp H
            obtain ⟨t198, A360, H⟩ := H
            replace H : ((damperref1_Digits.f k1 t198).bind fun t199 => (if (t197 ++ (⟨#[45]⟩ : ByteArray)).size + t199.size ≤ 9223372036854775807 then (damperlaw1_LabelRevs.l1 k1 (([t196, a2, (⟨#[119, 101, 98, 45]⟩ : ByteArray) ++ a2, (t197 ++ (⟨#[45]⟩ : ByteArray)) ++ t199, (⟨#[97, 45, 48]⟩ : ByteArray), (⟨#[97, 45, 48, 49]⟩ : ByteArray), (⟨#[97, 45, 49, 45, 50]⟩ : ByteArray), (⟨#[97, 45, 45, 49]⟩ : ByteArray), (⟨#[45, 49]⟩ : ByteArray), (⟨#[97, 45]⟩ : ByteArray), (⟨#[49, 45, 49]⟩ : ByteArray), (⟨#[97, 45, 49, 50, 51, 52, 53, 54, 55]⟩ : ByteArray), (⟨#[97, 45, 49, 50, 51, 52, 53, 54, 55, 56, 57, 48, 49, 50, 51, 52, 53, 54, 55, 56, 57, 48]⟩ : ByteArray)] : List ByteArray)) 0) else (none))) = some r := H
            have A36 := Aside0.mk A360
            clear A360
            replace H := Option.bind_eq_some_iff.mp H
            obtain ⟨t199, A370, H⟩ := H
            replace H : (if (t197 ++ (⟨#[45]⟩ : ByteArray)).size + t199.size ≤ 9223372036854775807 then (damperlaw1_LabelRevs.l1 k1 (([t196, a2, (⟨#[119, 101, 98, 45]⟩ : ByteArray) ++ a2, (t197 ++ (⟨#[45]⟩ : ByteArray)) ++ t199, (⟨#[97, 45, 48]⟩ : ByteArray), (⟨#[97, 45, 48, 49]⟩ : ByteArray), (⟨#[97, 45, 49, 45, 50]⟩ : ByteArray), (⟨#[97, 45, 45, 49]⟩ : ByteArray), (⟨#[45, 49]⟩ : ByteArray), (⟨#[97, 45]⟩ : ByteArray), (⟨#[49, 45, 49]⟩ : ByteArray), (⟨#[97, 45, 49, 50, 51, 52, 53, 54, 55]⟩ : ByteArray), (⟨#[97, 45, 49, 50, 51, 52, 53, 54, 55, 56, 57, 48, 49, 50, 51, 52, 53, 54, 55, 56, 57, 48]⟩ : ByteArray)] : List ByteArray)) 0) else (none)) = some r := H
            have A37 := Aside0.mk A370
            clear A370
            by_cases c38 : (t197 ++ (⟨#[45]⟩ : ByteArray)).size + t199.size ≤ 9223372036854775807
            rotate_left
            · rw [if_neg c38] at H
              exact absurd H (by simp)
            rw [if_pos c38] at H
            have c38b0 := eq_true c38
            have c38b1 : decide ((t197 ++ (⟨#[45]⟩ : ByteArray)).size + t199.size ≤ 9223372036854775807) = true := decide_eq_true c38
            try have c38b3 : (9223372036854775807 < t197.size + 1 + t199.size) = False := eq_false (by have h_ := c38; simp only [ByteArray.size_append] at h_; exact Nat.not_lt.2 h_)
            try have c38b2 : (9223372036854775807 < (t197 ++ (⟨#[45]⟩ : ByteArray)).size + t199.size) = False := eq_false (Nat.not_lt.2 c38)
            try (have c38b4 := c38; simp at c38b4; have c38b5 := eq_false (Nat.not_lt.2 c38b4))
            obtain ⟨y200, hy200⟩ : ∃ y_ : List ByteArray, y_ = (([t196, a2, (⟨#[119, 101, 98, 45]⟩ : ByteArray) ++ a2, (t197 ++ (⟨#[45]⟩ : ByteArray)) ++ t199, (⟨#[97, 45, 48]⟩ : ByteArray), (⟨#[97, 45, 48, 49]⟩ : ByteArray), (⟨#[97, 45, 49, 45, 50]⟩ : ByteArray), (⟨#[97, 45, 45, 49]⟩ : ByteArray), (⟨#[45, 49]⟩ : ByteArray), (⟨#[97, 45]⟩ : ByteArray), (⟨#[49, 45, 49]⟩ : ByteArray), (⟨#[97, 45, 49, 50, 51, 52, 53, 54, 55]⟩ : ByteArray), (⟨#[97, 45, 49, 50, 51, 52, 53, 54, 55, 56, 57, 48, 49, 50, 51, 52, 53, 54, 55, 56, 57, 48]⟩ : ByteArray)] : List ByteArray)) := ⟨_, rfl⟩
            replace H : (damperlaw1_LabelRevs.l1 k1 y200 0) = some r := by first | (rw [hy200]; with_reducible exact H) | (have H2_ := (Option.bind_some _ _).symm.trans H; rw [hy200]; with_reducible exact H2_) | (have H2_ := (Option.bind_some _ _).symm.trans H; with_reducible exact H2_) | with_reducible exact H | (rw [hy200]; exact H) | exact H
            have Ny200 := Aside0.mk hy200
            clear hy200
            have H' := Aside0.mk H
            clear H
            obtain ⟨Ao39, co39, eo39⟩ := Kd.R_slice HO_9.out
            subst eo39
            go_wp2_with (first | ((with_reducible refine gate_callee (f := 11) rfl ?_); refine goesL_ (some 68) rfl rfl Tryd.func11 (by kernel_rfl) rfl #[.slice A0 l0.length c0] rfl (by (try simp only [List.map_toArray, List.map_cons, List.map_nil]); first | done | rfl | (simp only [List.length_drop, List.length_take]; rfl)) ?_; (with_reducible refine (damperlaw1_Text.calls k1 _ _ l0 t196 _ ?side1 ?side2 A32.out).mono ?_); (case side1 => repeat (first | exact (Kd.C_below HR0.out HB.out) | (with_reducible refine Kd.C_alloc ?_ _) | (with_reducible refine Kd.C_drewN ?_ _) | (with_reducible refine Kd.C_drew ?_))); (case side2 => exact HC0.out); rintro e w40 ⟨rfl, hb⟩; refine ⟨_, rfl, ?_⟩; have n0_ := Aside0.mk (Kd.R_below (by (with_reducible repeat (first | apply Kd.R_alloc | apply Kd.R_drewN | apply Kd.R_drew)); exact HO_9.out) hb); have n1_ := Aside0.mk (below_step (by repeat (first | (with_reducible first | exact HB.out | apply below_alloc | apply pw_below_drewN | apply below_drew1) | exact HB.out)) hb); clear HO_9; clear HB; have HO_9 := n0_; have HB := n1_; clear n0_ n1_; (try clear hb); (try clear hb2); (try clear hk); (try clear hi)) | ((with_reducible refine gate_callee (f := 11) rfl ?_); refine goesL_ (some 73) rfl rfl Tryd.func11 (by kernel_rfl) rfl #[.slice A0 l0.length c0] rfl (by (try simp only [List.map_toArray, List.map_cons, List.map_nil]); first | done | rfl | (simp only [List.length_drop, List.length_take]; rfl)) ?_; (with_reducible refine (damperlaw1_Text.calls k1 _ _ l0 t197 _ ?side1 ?side2 A34.out).mono ?_); (case side1 => repeat (first | exact (Kd.C_below HR0.out HB.out) | (with_reducible refine Kd.C_alloc ?_ _) | (with_reducible refine Kd.C_drewN ?_ _) | (with_reducible refine Kd.C_drew ?_))); (case side2 => exact HC0.out); rintro e w41 ⟨rfl, hb⟩; refine ⟨_, rfl, ?_⟩; have n0_ := Aside0.mk (Kd.R_below (by (with_reducible repeat (first | apply Kd.R_alloc | apply Kd.R_drewN | apply Kd.R_drew)); exact HO_9.out) hb); have n1_ := Aside0.mk (below_step (by repeat (first | (with_reducible first | exact HB.out | apply below_alloc | apply pw_below_drewN | apply below_drew1) | exact HB.out)) hb); clear HO_9; clear HB; have HO_9 := n0_; have HB := n1_; clear n0_ n1_; (try clear hb); (try clear hb2); (try clear hk); (try clear hi)) | ((with_reducible refine gate_callee (f := 12) rfl ?_); refine goesL_ (some 76) rfl rfl Tryd.func12 (by kernel_rfl) rfl #[.int .i64 a3, .int .i64 20000000] rfl (by (try simp only [List.map_toArray, List.map_cons, List.map_nil]); first | done | rfl | (simp only [List.length_drop, List.length_take]; rfl)) ?_; (with_reducible refine (damperlaw1_within.calls a3 20000000 t198 _ A36.out).mono ?_); rintro e w' ⟨rfl, ⟨nd, rfl⟩⟩; refine ⟨_, rfl, ?_⟩) | ((with_reducible refine gate_callee (f := 19) rfl ?_); refine goesL_ (some 77) rfl rfl Tryd.func19 (by kernel_rfl) rfl #[.int .i64 t198] rfl (by (try simp only [List.map_toArray, List.map_cons, List.map_nil]); first | done | rfl | (simp only [List.length_drop, List.length_take]; rfl)) ?_; (with_reducible refine (damperref1_Digits.calls k1 t198 t199 _ A37.out).mono ?_); rintro e w42 ⟨rfl, hb⟩; refine ⟨_, rfl, ?_⟩; have n0_ := Aside0.mk (Kd.R_below (by (with_reducible repeat (first | apply Kd.R_alloc | apply Kd.R_drewN | apply Kd.R_drew)); exact HO_9.out) hb); have n1_ := Aside0.mk (below_step (by repeat (first | (with_reducible first | exact HB.out | apply below_alloc | apply pw_below_drewN | apply below_drew1) | exact HB.out)) hb); clear HO_9; clear HB; have HO_9 := n0_; have HB := n1_; clear n0_ n1_; (try clear hb); (try clear hb2); (try clear hk); (try clear hi)) | ((with_reducible refine gate_dst (N := 79) rfl ?_); refine Kd.R_lit Kd.string _ 9 ?hg (N := 79) ?hd (xs := ([t196, a2, (⟨#[119, 101, 98, 45]⟩ : ByteArray) ++ a2, (t197 ++ (⟨#[45]⟩ : ByteArray)) ++ t199, (⟨#[97, 45, 48]⟩ : ByteArray), (⟨#[97, 45, 48, 49]⟩ : ByteArray), (⟨#[97, 45, 49, 45, 50]⟩ : ByteArray), (⟨#[97, 45, 45, 49]⟩ : ByteArray), (⟨#[45, 49]⟩ : ByteArray), (⟨#[97, 45]⟩ : ByteArray), (⟨#[49, 45, 49]⟩ : ByteArray), (⟨#[97, 45, 49, 50, 51, 52, 53, 54, 55]⟩ : ByteArray), (⟨#[97, 45, 49, 50, 51, 52, 53, 54, 55, 56, 57, 48, 49, 50, 51, 52, 53, 54, 55, 56, 57, 48]⟩ : ByteArray)] : List ByteArray)) (inner := [.string t196, .string a2, .string ((⟨#[119, 101, 98, 45]⟩ : ByteArray) ++ a2), .string ((t197 ++ (⟨#[45]⟩ : ByteArray)) ++ t199), .string (⟨#[97, 45, 48]⟩ : ByteArray), .string (⟨#[97, 45, 48, 49]⟩ : ByteArray), .string (⟨#[97, 45, 49, 45, 50]⟩ : ByteArray), .string (⟨#[97, 45, 45, 49]⟩ : ByteArray), .string (⟨#[45, 49]⟩ : ByteArray), .string (⟨#[97, 45]⟩ : ByteArray), .string (⟨#[49, 45, 49]⟩ : ByteArray), .string (⟨#[97, 45, 49, 50, 51, 52, 53, 54, 55]⟩ : ByteArray), .string (⟨#[97, 45, 49, 50, 51, 52, 53, 54, 55, 56, 57, 48, 49, 50, 51, 52, 53, 54, 55, 56, 57, 48]⟩ : ByteArray)]) (ok := fun _ => True) (okp := fun _ => True) ?hr ?hp (fun _ hk => hk) trivial (Below.refl _ _) (Nat.le_refl _) (by simp) ?_; (case hd => rfl); (case hg => rfl); (case hr => first | (go_simp; done) | (go_simp; rfl)); (case hp => exact (Reps.one (show Kd.M Kd.string _ _ _ t196 [.string t196] from rfl) (Reps.one (show Kd.M Kd.string _ _ _ a2 [.string a2] from rfl) (Reps.one (show Kd.M Kd.string _ _ _ ((⟨#[119, 101, 98, 45]⟩ : ByteArray) ++ a2) [.string ((⟨#[119, 101, 98, 45]⟩ : ByteArray) ++ a2)] from rfl) (Reps.one (show Kd.M Kd.string _ _ _ ((t197 ++ (⟨#[45]⟩ : ByteArray)) ++ t199) [.string ((t197 ++ (⟨#[45]⟩ : ByteArray)) ++ t199)] from rfl) (Reps.one (show Kd.M Kd.string _ _ _ (⟨#[97, 45, 48]⟩ : ByteArray) [.string (⟨#[97, 45, 48]⟩ : ByteArray)] from rfl) (Reps.one (show Kd.M Kd.string _ _ _ (⟨#[97, 45, 48, 49]⟩ : ByteArray) [.string (⟨#[97, 45, 48, 49]⟩ : ByteArray)] from rfl) (Reps.one (show Kd.M Kd.string _ _ _ (⟨#[97, 45, 49, 45, 50]⟩ : ByteArray) [.string (⟨#[97, 45, 49, 45, 50]⟩ : ByteArray)] from rfl) (Reps.one (show Kd.M Kd.string _ _ _ (⟨#[97, 45, 45, 49]⟩ : ByteArray) [.string (⟨#[97, 45, 45, 49]⟩ : ByteArray)] from rfl) (Reps.one (show Kd.M Kd.string _ _ _ (⟨#[45, 49]⟩ : ByteArray) [.string (⟨#[45, 49]⟩ : ByteArray)] from rfl) (Reps.one (show Kd.M Kd.string _ _ _ (⟨#[97, 45]⟩ : ByteArray) [.string (⟨#[97, 45]⟩ : ByteArray)] from rfl) (Reps.one (show Kd.M Kd.string _ _ _ (⟨#[49, 45, 49]⟩ : ByteArray) [.string (⟨#[49, 45, 49]⟩ : ByteArray)] from rfl) (Reps.one (show Kd.M Kd.string _ _ _ (⟨#[97, 45, 49, 50, 51, 52, 53, 54, 55]⟩ : ByteArray) [.string (⟨#[97, 45, 49, 50, 51, 52, 53, 54, 55]⟩ : ByteArray)] from rfl) (Reps.one (show Kd.M Kd.string _ _ _ (⟨#[97, 45, 49, 50, 51, 52, 53, 54, 55, 56, 57, 48, 49, 50, 51, 52, 53, 54, 55, 56, 57, 48]⟩ : ByteArray) [.string (⟨#[97, 45, 49, 50, 51, 52, 53, 54, 55, 56, 57, 48, 49, 50, 51, 52, 53, 54, 55, 56, 57, 48]⟩ : ByteArray)] from rfl) (Reps.none _ _))))))))))))))); intro v201 w43 ho44 hb hg_ hnew_; clear hg_ hnew_; (first | rw [← Ny200.out] at ho44 | (simp only [Int.reduceToNat] at ho44; rw [← Ny200.out] at ho44)); have n0_ := Aside0.mk (Kd.R_below (by (with_reducible repeat (first | apply Kd.R_alloc | apply Kd.R_drewN | apply Kd.R_drew)); exact HO_9.out) hb); have n1_ := Aside0.mk (Kd.R_lower ho44 (below_size (by repeat (first | (with_reducible first | exact HB.out | apply below_alloc | apply pw_below_drewN | apply below_drew1) | exact HB.out)))); have n2_ := Aside0.mk (below_step (by repeat (first | (with_reducible first | exact HB.out | apply below_alloc | apply pw_below_drewN | apply below_drew1) | exact HB.out)) hb); clear HO_9; clear HB; have HO_9 := n0_; have HO202 := n1_; have HB := n2_; clear n0_ n1_ n2_; clear hb ho44))
            go_loopg [12] k1 (fun kq v12 w' => ∃ (x12_2 : Int), v12 = .int .i64 x12_2 ∧ Aside0 (damperlaw1_LabelRevs.l1 kq y200 x12_2 = some r) ∧ Aside0 (kq ≤ k1) ∧ Aside0 (Kd.R Kd.string 9 w' w.heap.size (fun _ => True) v201 y200) ∧ Aside0 (Below w.heap.size w w'))
            case atStart => exact ⟨(0), (by first | rfl | (simp; done) | (simp [*]; done)), H', ⟨Nat.le_refl _⟩, ⟨by (with_reducible repeat (first | apply Kd.R_alloc | apply Kd.R_drewN | apply Kd.R_drew)); exact HO202.out⟩, ⟨by repeat (first | (with_reducible first | exact HB.out | apply below_alloc | apply pw_below_drewN | apply below_drew1) | exact HB.out)⟩⟩
            case round =>
              clear H'
              try clear c1
              try clear p1
              try clear q1
              try clear hx1
              try clear c2
              try clear p2
              try clear c3
              try clear c4
              try clear c6
              try clear p6
              try clear c7
              try clear c7b0
              try clear c7b1
              try clear c10
              try clear c11
              try clear c12
              try clear c13
              try clear c13b0
              try clear c15
              try clear c15b0
              try clear c17
              try clear c18
              try clear p18
              try clear q18
              try clear hx18
              try clear c19
              try clear c19b0
              try clear c19b1
              try clear p19
              try clear q19
              try clear hx19
              try clear c20
              try clear c20b0
              try clear c20b1
              try clear c20b2
              try clear c23
              try clear c23b0
              try clear c23b1
              try clear c33
              try clear c33b0
              try clear c33b1
              try clear c33b2
              try clear c35
              try clear c35b0
              try clear c35b1
              try clear c35b2
              try clear c38
              try clear c38b0
              try clear c38b1
              try clear c38b2
              try clear hx187_0
              try clear hx190_0
              try clear hx192_0
              try clear hx194_0
              try clear p187
              try clear p190
              try clear p192
              try clear p194
              try clear p2
              try clear p6
              try clear q187
              try clear q190
              try clear q192
              try clear q194
              obtain ⟨x12_2, rfl, HA, HK2, HO_11, HB⟩ := hrel
              cases gk with
              | zero => exact absurd HA.out (by simp [damperlaw1_LabelRevs.l1])
              | succ k2 =>
                have H := HA.out
                clear HA
                simp only [damperlaw1_LabelRevs.l1] at H
                by_cases c45 : x12_2 < (y200.length : Int)
                · rw [if_pos c45] at H
                  have c45b0 : decide (x12_2 < (y200.length : Int)) = true := decide_eq_true c45
                  clear c45
                  by_cases c46 : 0 ≤ x12_2
                  rotate_left
                  · rw [if_neg c46] at H
                    exact absurd H (by simp)
                  rw [if_pos c46] at H
                  have c46b0 : decide (0 ≤ x12_2) = true := decide_eq_true c46
                  clear c46
                  replace H := Option.bind_eq_some_iff.mp H
                  obtain ⟨⟨t204, t205, t206⟩, A470, H⟩ := H
                  replace H : ((damperref1_Split.f k2 (rdOf ByteArray.empty y200 x12_2)).bind fun bt208 => (if t204.toList = bt208.1.toList then (if t205 = bt208.2.1 then (damperlaw1_LabelRevs.j2 k2 y200 x12_2 (t206 != bt208.2.2)) else (damperlaw1_LabelRevs.j2 k2 y200 x12_2 true)) else (damperlaw1_LabelRevs.j2 k2 y200 x12_2 true))) = some r := H
                  have A47 := Aside0.mk A470
                  clear A470
                  replace H := Option.bind_eq_some_iff.mp H
                  obtain ⟨⟨t208, t209, t210⟩, A480, H⟩ := H
                  replace H : (if t204.toList = t208.toList then (if t205 = t209 then (damperlaw1_LabelRevs.j2 k2 y200 x12_2 (t206 != t210)) else (damperlaw1_LabelRevs.j2 k2 y200 x12_2 true)) else (damperlaw1_LabelRevs.j2 k2 y200 x12_2 true)) = some r := H
                  have A48 := Aside0.mk A480
                  clear A480
                  have HC49 := Aside0.mk H
                  clear H
                  obtain ⟨Ao50, co50, eo50⟩ := Kd.R_slice HO_11.out
                  subst eo50
                  have p203 : 0 ≤ (x12_2 : Int) := of_decide_eq_true (by first | (with_reducible assumption) | assumption)
                  have q203 : x12_2 < (y200.length : Int) := of_decide_eq_true (by first | (with_reducible assumption) | assumption)
                  obtain ⟨ad203, e203, hx203_0⟩ := Kd.at_string (Kd.R_reads' HO_11.out).2.2 x12_2 p203 q203
                  cases e203
                  replace p203 := eq_true p203
                  replace q203 := eq_true q203
                  go_upto_region 17 with (first | ((with_reducible refine gate_callee (f := 20) rfl ?_); refine goesL_ (some 91) rfl rfl Tryd.func20 (by kernel_rfl) rfl #[.string (rdOf ByteArray.empty y200 x12_2)] rfl (by (try simp only [List.map_toArray, List.map_cons, List.map_nil]); first | done | rfl | (simp only [List.length_drop, List.length_take]; rfl)) ?_; (with_reducible refine (label_Split.calls (rdOf ByteArray.empty y200 x12_2) t204 t205 t206 _ ?side1 A47.out).mono ?_); (case side1 => first | exact hLd_.out | exact hLd_ | exact ⟨LaidW.below hLd_.out (by repeat (first | (with_reducible first | exact HB.out | apply below_alloc | apply pw_below_drewN | apply below_drew1) | exact HB.out))⟩ | exact ⟨LaidW.below hLd_.out (by repeat (first | exact Below.refl _ _ | apply below_alloc | apply pw_below_drewN | apply below_drew1))⟩); rintro e w51 ⟨rfl, hb⟩; refine ⟨_, rfl, ?_⟩; have n0_ := Aside0.mk (Kd.R_below (by (with_reducible repeat (first | apply Kd.R_alloc | apply Kd.R_drewN | apply Kd.R_drew)); exact HO_11.out) hb); have n1_ := Aside0.mk (below_step (by repeat (first | (with_reducible first | exact HB.out | apply below_alloc | apply pw_below_drewN | apply below_drew1) | exact HB.out)) hb); clear HO_11; clear HB; have HO_11 := n0_; have HB := n1_; clear n0_ n1_; (try clear hb); (try clear hb2); (try clear hk); (try clear hi); have p207 : 0 ≤ (x12_2 : Int) := of_decide_eq_true (by first | (with_reducible assumption) | assumption); have q207 : x12_2 < (y200.length : Int) := of_decide_eq_true (by first | (with_reducible assumption) | assumption); obtain ⟨ad207, e207, hx207_0⟩ := Kd.at_string (Kd.R_reads' HO_11.out).2.2 x12_2 p207 q207; obtain rfl : ad203 = ad207 := (by injection e207); replace p207 := eq_true p207; replace q207 := eq_true q207) | ((with_reducible refine gate_callee (f := 21) rfl ?_); refine goesL_ (some 100) rfl rfl Tryd.func21 (by kernel_rfl) rfl #[.string (rdOf ByteArray.empty y200 x12_2)] rfl (by (try simp only [List.map_toArray, List.map_cons, List.map_nil]); first | done | rfl | (simp only [List.length_drop, List.length_take]; rfl)) ?_; (with_reducible refine (damperref1_Split.calls k2 (rdOf ByteArray.empty y200 x12_2) t208 t209 t210 _ A48.out).mono ?_); rintro e w' ⟨rfl, ⟨nd, rfl⟩⟩; refine ⟨_, rfl, ?_⟩))
                  (try simp only [Act.put, List.setIfInBounds_toArray, List.set_cons_zero, List.set_cons_succ])
                  go_cut [116] (fun v116 wc => ∃ (kq : Nat) (x116_48 : Bool), v116 = .bool x116_48 ∧ Aside0 (damperlaw1_LabelRevs.j2 kq y200 x12_2 x116_48 = some r) ∧ Aside0 (kq ≤ k2) ∧ Aside0 (Kd.R Kd.string 9 wc w.heap.size (fun _ => True) (.slice (some ad203) y200.length co50) y200) ∧ Aside0 (Below w.heap.size w wc))
                  case first =>
                    have H := HC49.out
                    clear HC49
                    by_cases c52 : t204.toList = t208.toList
                    · rw [if_pos c52] at H
                      have c52b0 : (t204.toList == t208.toList) = true := beq_iff_eq.mpr c52
                      have c52b1 : (t204.toList != t208.toList) = false := bne_eq_false_iff_eq.mpr c52
                      clear c52
                      (first | rw [c52b0] | (simp only [i64_w, i32_w]; rw [c52b0]) | skip)
                      by_cases c53 : t205 = t209
                      · rw [if_pos c53] at H
                        have c53b0 : (t205 == t209) = true := beq_iff_eq.mpr c53
                        have c53b1 : (t205 != t209) = false := bne_eq_false_iff_eq.mpr c53
                        clear c53
                        have H' := Aside0.mk H
                        clear H
                        go_wp2
                        go_meet
                        case rel => exact ⟨_, ((t206 != t210)), (by first | rfl | (simp; done) | (simp [*]; done)), H', ⟨by have := HK1.out; have := HK2.out; first | omega | exact Nat.le_refl _⟩, ⟨by (with_reducible repeat (first | apply Kd.R_alloc | apply Kd.R_drewN | apply Kd.R_drew)); exact HO_11.out⟩, ⟨by repeat (first | (with_reducible first | exact HB.out | apply below_alloc | apply pw_below_drewN | apply below_drew1) | exact HB.out)⟩⟩
                      · rw [if_neg c53] at H
                        have c53b0 : (t205 == t209) = false := beq_eq_false_iff_ne.mpr c53
                        have c53b1 : (t205 != t209) = true := bne_iff_ne.mpr c53
                        have H' := Aside0.mk H
                        clear H
                        go_wp2
                        go_meet
                        case rel => exact ⟨_, (true), (by first | rfl | (simp; done) | (simp [*]; done)), H', ⟨by have := HK1.out; have := HK2.out; first | omega | exact Nat.le_refl _⟩, ⟨by (with_reducible repeat (first | apply Kd.R_alloc | apply Kd.R_drewN | apply Kd.R_drew)); exact HO_11.out⟩, ⟨by repeat (first | (with_reducible first | exact HB.out | apply below_alloc | apply pw_below_drewN | apply below_drew1) | exact HB.out)⟩⟩
                    · rw [if_neg c52] at H
                      have c52b0 : (t204.toList == t208.toList) = false := beq_eq_false_iff_ne.mpr c52
                      have c52b1 : (t204.toList != t208.toList) = true := bne_iff_ne.mpr c52
                      (first | rw [c52b0] | (simp only [i64_w, i32_w]; rw [c52b0]) | skip)
                      have H' := Aside0.mk H
                      clear H
                      go_wp2
                      go_meet
                      case rel => exact ⟨_, (true), (by first | rfl | (simp; done) | (simp [*]; done)), H', ⟨by have := HK1.out; have := HK2.out; first | omega | exact Nat.le_refl _⟩, ⟨by (with_reducible repeat (first | apply Kd.R_alloc | apply Kd.R_drewN | apply Kd.R_drew)); exact HO_11.out⟩, ⟨by repeat (first | (with_reducible first | exact HB.out | apply below_alloc | apply pw_below_drewN | apply below_drew1) | exact HB.out)⟩⟩
                  case rest =>
                    clear HC49
                    try clear c1
                    try clear p1
                    try clear q1
                    try clear hx1
                    try clear c2
                    try clear p2
                    try clear q2
                    try clear hx2
                    try clear c3
                    try clear c4
                    try clear c5
                    try clear c6
                    try clear p6
                    try clear c7
                    try clear c7b0
                    try clear c7b1
                    try clear c10
                    try clear c11
                    try clear c12
                    try clear c13
                    try clear c13b0
                    try clear c15
                    try clear c15b0
                    try clear c17
                    try clear c18
                    try clear p18
                    try clear q18
                    try clear hx18
                    try clear c19
                    try clear c19b0
                    try clear c19b1
                    try clear p19
                    try clear q19
                    try clear hx19
                    try clear c20
                    try clear c20b0
                    try clear c20b1
                    try clear c20b2
                    try clear p20
                    try clear q20
                    try clear hx20
                    try clear c21
                    try clear c23
                    try clear c23b0
                    try clear c23b1
                    try clear c33
                    try clear c33b0
                    try clear c33b1
                    try clear c33b2
                    try clear c35
                    try clear c35b0
                    try clear c35b1
                    try clear c35b2
                    try clear c38
                    try clear c38b0
                    try clear c38b1
                    try clear c38b2
                    try clear c45
                    try clear c45b0
                    try clear c46
                    try clear c46b0
                    try clear c52
                    try clear c52b0
                    try clear c52b1
                    try clear c53
                    try clear c53b0
                    try clear c53b1
                    try clear hx187_0
                    try clear hx190_0
                    try clear hx192_0
                    try clear hx194_0
                    try clear hx203_0
                    try clear hx207_0
                    try clear p1
                    try clear p18
                    try clear p187
                    try clear p19
                    try clear p190
                    try clear p192
                    try clear p194
                    try clear p2
                    try clear p203
                    try clear p207
                    try clear p6
                    try clear q1
                    try clear q18
                    try clear q187
                    try clear q19
                    try clear q190
                    try clear q192
                    try clear q194
                    try clear q203
                    try clear q207
                    obtain ⟨kq, x116_48, rfl, HA, HJ48, HO_11, HB⟩ := hcut
                    cases kq with
                    | zero => exact absurd HA.out (by simp [damperlaw1_LabelRevs.j2])
                    | succ kj48 =>
                      have H := HA.out
                      clear HA
                      simp only [damperlaw1_LabelRevs.j2] at H
                      by_cases c54 : x116_48 = true
                      · subst c54
                        have H1 : (some false) = some r := by rw [if_pos rfl] at H; exact H
                        clear H
                        have H := H1
                        clear H1
                        exact absurd (Option.some.inj H) (by rw [hr0_.out]; decide)
                      · replace c54 := Bool.eq_false_iff.mpr c54
                        subst c54
                        have H1 : (damperlaw1_LabelRevs.l1 kj48 y200 (wrap64 (x12_2 + 1))) = some r := by rw [if_neg (show ¬ (false = true) by decide)] at H; exact H
                        clear H
                        have H := H1
                        clear H1
                        have H' := Aside0.mk H
                        clear H
                        go_wp2
                        go_roundg kj48
                        case measure => have := HK1.out; have := HK2.out; have := HJ48.out; omega
                        case rel => exact ⟨(wrap64 (x12_2 + 1)), (by first | rfl | (simp; done) | (simp [*]; done)), H', ⟨by have := HK1.out; have := HK2.out; have := HJ48.out; omega⟩, ⟨by (with_reducible repeat (first | apply Kd.R_alloc | apply Kd.R_drewN | apply Kd.R_drew)); exact HO_11.out⟩, ⟨by repeat (first | (with_reducible first | exact HB.out | apply below_alloc | apply pw_below_drewN | apply below_drew1) | exact HB.out)⟩⟩
                · rw [if_neg c45] at H
                  have c45b0 : decide (x12_2 < (y200.length : Int)) = false := decide_eq_false c45
                  clear c45
                  obtain rfl := Option.some.inj H
                  obtain ⟨Ao55, co55, eo55⟩ := Kd.R_slice HO_11.out
                  subst eo55
                  go_wp2
                  go_ret
                  exact ⟨by first | rfl | (simp [errW_none, errW_some] <;> rfl) | (simp [*, errW_none, errW_some] <;> rfl), by repeat (first | (with_reducible first | exact HB.out | apply below_alloc | apply pw_below_drewN | apply below_drew1) | exact HB.out)⟩
  · replace c6 := Bool.eq_false_iff.mpr c6
    subst c6
    have H1 : (some false) = some r := by rw [if_neg (show ¬ (false = true) by decide)] at H; exact H
    clear H
    have H := H1
    clear H1
    exact absurd (Option.some.inj H) (by rw [hr0_.out]; decide)

/-- THE ONE PURE STATEMENT of damperlaw1_LabelRevs: yours. -/
def damperlaw1_LabelRevs.Pure : Prop := ∀ (l0 : List Int) (a1 : Int) (a2 : ByteArray) (a3 : Int), (l0.length ≤ maxLen ∧ ∀ y_ ∈ l0, (Lit.int .i64 y_).wf = true) → ((Lit.int .i64 a1).wf = true) → (a2.size ≤ maxLen) → ((Lit.int .i64 a3).wf = true) → ∃ k, damperlaw1_LabelRevs.f k l0 a1 a2 a3 = some true
theorem damperlaw1_LabelRevs.walk (P : damperlaw1_LabelRevs.Pure) (A0 : Option Addr) (c0 : Nat) (l0 : List Int) (a1 : Int) (a2 : ByteArray) (a3 : Int) (w : World) (hLd_ : LaidW w) (w0 : l0.length ≤ maxLen ∧ ∀ y_ ∈ l0, (Lit.int .i64 y_).wf = true) (w1 : (Lit.int .i64 a1).wf = true) (w2 : a2.size ≤ maxLen) (w3 : (Lit.int .i64 a3).wf = true) (hr0 : Kd.C (Kd.int .i64) w A0 l0.length l0) (hc0 : l0.length ≤ c0) :
    Calls Tryd.prog 4 #[.slice A0 l0.length c0, .int .i64 a1, .string a2, .int .i64 a3] w fun e w' => e = .returned (.bool true) ∧ Below w.heap.size w w' := by
  obtain ⟨k, h⟩ := P l0 a1 a2 a3 w0 w1 w2 w3
  refine (damperlaw1_LabelRevs.calls k A0 c0 l0 a1 a2 a3 true w ⟨hLd_⟩ hr0 hc0 ⟨rfl⟩ h).mono ?_
  rintro e w' ⟨rfl, hd⟩
  exact ⟨rfl, hd⟩

end Go.Proofs.YtgnnbnbmjifgfaaDoor.Ma
