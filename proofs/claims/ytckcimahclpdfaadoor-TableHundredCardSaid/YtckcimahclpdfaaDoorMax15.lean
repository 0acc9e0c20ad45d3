-- Written by a program of this session (wip/tools/myprint.py), in the form of the kit's print. Not trusted: Lean checks it.
import Derived.Test.YtckcimahclpdfaaDoorMax0
import Derived.Test.YtckcimahclpdfaaDoorMax7
import Derived.Test.YtckcimahclpdfaaDoorMax8
import Derived.Test.YtckcimahclpdfaaDoorMax9
import Derived.Test.YtckcimahclpdfaaDoorMax10
namespace Go.Proofs.YtckcimahclpdfaaDoor.Ma
open Go.RowKit Go.Proofs.YtckcimahclpdfaaDoorW.PrintWords Go.Proofs.YtckcimahclpdfaaDoorW.PrintLast Go.Proofs.YtckcimahclpdfaaDoorW.PrintMore
attribute [local go_sem] max2_int min2_int max_two min_two max_three min_three max_four min_four   -- for this text's walks alone
set_option linter.unusedVariables false
set_option linter.unusedSimpArgs false

/-! ### damperlaw1_within: function 34 -/
def damperlaw1_within.f (a0 : Int) (a1 : Int) : Option (Int) := if a1 = 0 then (none) else some (wi a0 a1)
set_option maxHeartbeats 8000000 in
set_option maxRecDepth 100000 in
theorem damperlaw1_within.same (a0 : Int) (a1 : Int) {r : Int} (hr : wi a0 a1 = r) (c3 : a1 ≠ 0) (w : World) :
    Calls Tryd.prog 34 #[.int .i64 a0, .int .i64 a1] w fun e w' => e = .returned (.int .i64 r) ∧ w' = w := by
  subst hr
  have c3b0 : (a1 == 0) = false := beq_eq_false_iff_ne.mpr c3
  have c3b1 : (a1 != 0) = true := bne_iff_ne.mpr c3
  by_cases c4 : (Int.tmod a0 a1) < 0
  · have hw : wi a0 a1 = wrap64 (Int.tmod a0 a1 + a1) := by unfold wi; rw [if_pos c4]
    rw [hw]; clear hw
    have c4b0 : decide ((Int.tmod a0 a1) < 0) = true := decide_eq_true c4
    clear c4
    go_enter Tryd.func34, Tryd.ntmps34
    go_wp2
    go_ret
    exact ⟨by first | rfl | (simp; done) | (simp [*]; done), rfl⟩
  · have hw : wi a0 a1 = Int.tmod a0 a1 := by unfold wi; rw [if_neg c4]
    rw [hw]; clear hw
    have c4b0 : decide ((Int.tmod a0 a1) < 0) = false := decide_eq_false c4
    clear c4
    go_enter Tryd.func34, Tryd.ntmps34
    go_wp2
    go_ret
    exact ⟨by first | rfl | (simp; done) | (simp [*]; done), rfl⟩
theorem damperlaw1_within.keep (a0 : Int) (a1 : Int) {r : Int} (hr : wi a0 a1 = r) (c3 : a1 ≠ 0) (w : World) :
    Calls Tryd.prog 34 #[.int .i64 a0, .int .i64 a1] w fun e w' => e = .returned (.int .i64 r) ∧ w = w' :=
  (damperlaw1_within.same a0 a1 hr c3 w).mono fun _ _ h => ⟨h.1, h.2.symm⟩
theorem damperlaw1_within.calls (a0 : Int) (a1 : Int) (r : Int) (w : World) (h : damperlaw1_within.f a0 a1 = some r) :
    Calls Tryd.prog 34 #[.int .i64 a0, .int .i64 a1] w fun e w' => e = .returned (.int .i64 r) ∧ Drawn0 w w' := by
  unfold damperlaw1_within.f at h
  by_cases c3 : a1 = 0
  · rw [if_pos c3] at h; cases h
  rw [if_neg c3] at h
  refine (damperlaw1_within.same a0 a1 (Option.some.inj h) c3 w).mono ?_
  rintro e w' ⟨rfl, rfl⟩
  exact ⟨rfl, Drawn0.refl _⟩

/-! ### damperlaw1_Text: function 15 -/
def damperlaw1_Text.l0 : Nat → List Int → ByteArray → Int → Option (ByteArray)
  | 0, _, _, _ => none
  | k + 1, x0, x3, x4 => if x4 < (x0.length : Int) then (if x4 < 24 then ((some (([(⟨#[97]⟩ : ByteArray), (⟨#[122]⟩ : ByteArray), (⟨#[48]⟩ : ByteArray), (⟨#[57]⟩ : ByteArray), (⟨#[45]⟩ : ByteArray), (⟨#[98]⟩ : ByteArray), (⟨#[49]⟩ : ByteArray), (⟨#[65]⟩ : ByteArray), (⟨#[95]⟩ : ByteArray), (⟨#[195, 169]⟩ : ByteArray), (⟨#[97]⟩ : ByteArray), (⟨#[55]⟩ : ByteArray)] : List ByteArray) : List ByteArray)).bind fun y240 => (if 0 ≤ x4 then (if 0 ≤ (wi (rd x0 x4) 12) then (if (wi (rd x0 x4) 12) < (y240.length : Int) then (if x3.size + (rdOf ByteArray.empty y240 (wi (rd x0 x4) 12)).size ≤ 9223372036854775807 then (damperlaw1_Text.l0 k x0 (x3 ++ (rdOf ByteArray.empty y240 (wi (rd x0 x4) 12))) (wrap64 (x4 + 1))) else (none)) else (none)) else (none)) else (none))) else (some x3)) else (some x3)
def damperlaw1_Text.f (k : Nat) (l0 : List Int) : Option (ByteArray) := damperlaw1_Text.l0 k l0 (⟨#[]⟩ : ByteArray) 0
theorem damperlaw1_Text.mono_l : ∀ k, (∀ y0 y1 y2, LeO (damperlaw1_Text.l0 k y0 y1 y2) (damperlaw1_Text.l0 (k + 1) y0 y1 y2))
  | 0 => fun _ _ _ r h => by simp [damperlaw1_Text.l0] at h
  | k + 1 => by
    have ih0 := damperlaw1_Text.mono_l k
    · intro y0 y1 y2
      unfold damperlaw1_Text.l0
      repeat' first
      | (with_reducible exact ih0 _ _ _)
      | (with_reducible exact LeO.refl _)
      | (with_reducible exact LeO.none _)
      | (with_reducible refine LeO.ite ?_ ?_)
      | (with_reducible refine LeO.bind ?_ (fun _ => ?_))
      | exact ih0 _ _ _
      | exact LeO.none _
      | refine LeO.ite ?_ ?_
      | refine LeO.bind ?_ (fun _ => ?_)
theorem damperlaw1_Text.mono : ∀ a0 k, LeO (damperlaw1_Text.f k a0) (damperlaw1_Text.f (k + 1) a0) := by
  intro a0 k
  have ih0 := damperlaw1_Text.mono_l k
  unfold damperlaw1_Text.f
  repeat' first
      | (with_reducible exact ih0 _ _ _)
      | (with_reducible exact LeO.refl _)
      | (with_reducible exact LeO.none _)
      | (with_reducible refine LeO.ite ?_ ?_)
      | (with_reducible refine LeO.bind ?_ (fun _ => ?_))
      | exact ih0 _ _ _
      | exact LeO.none _
      | refine LeO.ite ?_ ?_
      | refine LeO.bind ?_ (fun _ => ?_)
set_option maxHeartbeats 8000000 in
set_option maxRecDepth 100000 in
theorem damperlaw1_Text.calls (k : Nat) (A0 : Option Addr) (c0 : Nat) (l0 : List Int) (r : ByteArray) (w : World) (hr0 : Kd.C (Kd.int .i64) w A0 l0.length l0) (hc0 : l0.length ≤ c0) (h : damperlaw1_Text.f k l0 = some r) :
    Calls Tryd.prog 15 #[.slice A0 l0.length c0] w fun e w' => e = .returned (.string r) ∧ Below w.heap.size w w' := by
  have HR0 := Aside0.mk hr0
  have HC0 := Aside0.mk hc0
  clear hr0 hc0
  have HB := Aside0.mk (Below.refl w.heap.size w)
  have H : (damperlaw1_Text.l0 k l0 (⟨#[]⟩ : ByteArray) 0) = some r := h
  clear h
  have H' := Aside0.mk H
  clear H
  go_enter Tryd.func15, Tryd.ntmps15
  go_wp2_with (first | (go_at_call 34; refine (damperlaw1_within.keep _ _ rfl (by first | decide | assumption | exact wi_ne (by assumption) | exact wi_ne' (by assumption) | omega) _).mono ?_; rintro e w' ⟨rfl, rfl⟩))
  go_loopg [3, 4] k (fun kq v3 v4 w' => ∃ (x3_1 : ByteArray) (x4_1 : Int), v3 = .string x3_1 ∧ v4 = .int .i64 x4_1 ∧ Aside0 (damperlaw1_Text.l0 kq l0 x3_1 x4_1 = some r) ∧ Aside0 (kq ≤ k) ∧ Aside0 (Below w.heap.size w w'))
  case atStart => exact ⟨((⟨#[]⟩ : ByteArray)), (0), (by first | rfl | (simp; done) | (simp [*]; done)), (by first | rfl | (simp; done) | (simp [*]; done)), H', ⟨Nat.le_refl _⟩, ⟨by repeat (first | (with_reducible first | exact HB.out | apply below_alloc | apply pw_below_drewN | apply below_drew1) | exact HB.out)⟩⟩
  case round =>
    clear H'
    try clear c1
    obtain ⟨x3_1, x4_1, rfl, rfl, HA, HK1, HB⟩ := hrel
    cases gk with
    | zero => exact absurd HA.out (by simp [damperlaw1_Text.l0])
    | succ k1 =>
      have H := HA.out
      clear HA
      simp only [damperlaw1_Text.l0] at H
      by_cases c2 : x4_1 < (l0.length : Int)
      · rw [if_pos c2] at H
        have c2b0 : decide (x4_1 < (l0.length : Int)) = true := decide_eq_true c2
        clear c2
        by_cases c3 : x4_1 < 24
        · rw [if_pos c3] at H
          have c3b0 : decide (x4_1 < 24) = true := decide_eq_true c3
          clear c3
          obtain ⟨y240, hy240⟩ : ∃ y_ : List ByteArray, y_ = (([(⟨#[97]⟩ : ByteArray), (⟨#[122]⟩ : ByteArray), (⟨#[48]⟩ : ByteArray), (⟨#[57]⟩ : ByteArray), (⟨#[45]⟩ : ByteArray), (⟨#[98]⟩ : ByteArray), (⟨#[49]⟩ : ByteArray), (⟨#[65]⟩ : ByteArray), (⟨#[95]⟩ : ByteArray), (⟨#[195, 169]⟩ : ByteArray), (⟨#[97]⟩ : ByteArray), (⟨#[55]⟩ : ByteArray)] : List ByteArray)) := ⟨_, rfl⟩
          replace H : (if 0 ≤ x4_1 then (if 0 ≤ (wi (rd l0 x4_1) 12) then (if (wi (rd l0 x4_1) 12) < (y240.length : Int) then (if x3_1.size + (rdOf ByteArray.empty y240 (wi (rd l0 x4_1) 12)).size ≤ 9223372036854775807 then (damperlaw1_Text.l0 k1 l0 (x3_1 ++ (rdOf ByteArray.empty y240 (wi (rd l0 x4_1) 12))) (wrap64 (x4_1 + 1))) else (none)) else (none)) else (none)) else (none)) = some r := by first | (rw [hy240]; with_reducible exact H) | (have H2_ := (Option.bind_some _ _).symm.trans H; rw [hy240]; with_reducible exact H2_) | (have H2_ := (Option.bind_some _ _).symm.trans H; with_reducible exact H2_) | with_reducible exact H | (rw [hy240]; exact H) | exact H
          have Ny240 := Aside0.mk hy240
          clear hy240
          by_cases c4 : 0 ≤ x4_1
          rotate_left
          · rw [if_neg c4] at H
            exact absurd H (by simp)
          rw [if_pos c4] at H
          have c4b0 : decide (0 ≤ x4_1) = true := decide_eq_true c4
          clear c4
          obtain ⟨ji5, hji5⟩ : ∃ j_ : Int, (wi (rd l0 x4_1) 12) = j_ := ⟨_, rfl⟩
          replace H : (if 0 ≤ (ji5) then (if (ji5) < (y240.length : Int) then (if x3_1.size + (rdOf ByteArray.empty y240 (ji5)).size ≤ 9223372036854775807 then (damperlaw1_Text.l0 k1 l0 (x3_1 ++ (rdOf ByteArray.empty y240 (ji5))) (wrap64 (x4_1 + 1))) else (none)) else (none)) else (none)) = some r := by first | (rw [hji5] at H; exact H) | (simp only [hji5] at H ⊢; exact H)
          by_cases c6 : 0 ≤ (ji5)
          rotate_left
          · rw [if_neg c6] at H
            exact absurd H (by simp)
          rw [if_pos c6] at H
          have c6b0 : decide (0 ≤ (ji5)) = true := decide_eq_true c6
          clear c6
          by_cases c7 : (ji5) < (y240.length : Int)
          rotate_left
          · rw [if_neg c7] at H
            exact absurd H (by simp)
          rw [if_pos c7] at H
          have c7b0 : decide ((ji5) < (y240.length : Int)) = true := decide_eq_true c7
          clear c7
          by_cases c8 : x3_1.size + (rdOf ByteArray.empty y240 (ji5)).size ≤ 9223372036854775807
          rotate_left
          · rw [if_neg c8] at H
            exact absurd H (by simp)
          rw [if_pos c8] at H
          have c8b0 := eq_true c8
          have c8b1 : decide (x3_1.size + (rdOf ByteArray.empty y240 (ji5)).size ≤ 9223372036854775807) = true := decide_eq_true c8
          try have c8b2 : (9223372036854775807 < x3_1.size + (rdOf ByteArray.empty y240 (ji5)).size) = False := eq_false (Nat.not_lt.2 c8)
          try (have c8b4 := c8; simp at c8b4; have c8b5 := eq_false (Nat.not_lt.2 c8b4))
          have H' := Aside0.mk H
          clear H
          go_wp2_with (first | (go_at_call 34; refine (damperlaw1_within.keep _ _ rfl (by first | decide | assumption | exact wi_ne (by assumption) | exact wi_ne' (by assumption) | omega) _).mono ?_; rintro e w' ⟨rfl, rfl⟩) | ((with_reducible refine gate_dst (N := 16) rfl ?_); refine Kd.R_lit Kd.string _ 9 ?hg (N := 16) ?hd (xs := ([(⟨#[97]⟩ : ByteArray), (⟨#[122]⟩ : ByteArray), (⟨#[48]⟩ : ByteArray), (⟨#[57]⟩ : ByteArray), (⟨#[45]⟩ : ByteArray), (⟨#[98]⟩ : ByteArray), (⟨#[49]⟩ : ByteArray), (⟨#[65]⟩ : ByteArray), (⟨#[95]⟩ : ByteArray), (⟨#[195, 169]⟩ : ByteArray), (⟨#[97]⟩ : ByteArray), (⟨#[55]⟩ : ByteArray)] : List ByteArray)) (inner := [.string (⟨#[97]⟩ : ByteArray), .string (⟨#[122]⟩ : ByteArray), .string (⟨#[48]⟩ : ByteArray), .string (⟨#[57]⟩ : ByteArray), .string (⟨#[45]⟩ : ByteArray), .string (⟨#[98]⟩ : ByteArray), .string (⟨#[49]⟩ : ByteArray), .string (⟨#[65]⟩ : ByteArray), .string (⟨#[95]⟩ : ByteArray), .string (⟨#[195, 169]⟩ : ByteArray), .string (⟨#[97]⟩ : ByteArray), .string (⟨#[55]⟩ : ByteArray)]) (ok := fun _ => True) (okp := fun _ => True) ?hr ?hp (fun _ hk => hk) trivial (Below.refl _ _) (Nat.le_refl _) (by simp) ?_; (case hd => rfl); (case hg => rfl); (case hr => first | (go_simp; done) | (go_simp; rfl)); (case hp => exact (Reps.one (show Kd.M Kd.string _ _ _ (⟨#[97]⟩ : ByteArray) [.string (⟨#[97]⟩ : ByteArray)] from rfl) (Reps.one (show Kd.M Kd.string _ _ _ (⟨#[122]⟩ : ByteArray) [.string (⟨#[122]⟩ : ByteArray)] from rfl) (Reps.one (show Kd.M Kd.string _ _ _ (⟨#[48]⟩ : ByteArray) [.string (⟨#[48]⟩ : ByteArray)] from rfl) (Reps.one (show Kd.M Kd.string _ _ _ (⟨#[57]⟩ : ByteArray) [.string (⟨#[57]⟩ : ByteArray)] from rfl) (Reps.one (show Kd.M Kd.string _ _ _ (⟨#[45]⟩ : ByteArray) [.string (⟨#[45]⟩ : ByteArray)] from rfl) (Reps.one (show Kd.M Kd.string _ _ _ (⟨#[98]⟩ : ByteArray) [.string (⟨#[98]⟩ : ByteArray)] from rfl) (Reps.one (show Kd.M Kd.string _ _ _ (⟨#[49]⟩ : ByteArray) [.string (⟨#[49]⟩ : ByteArray)] from rfl) (Reps.one (show Kd.M Kd.string _ _ _ (⟨#[65]⟩ : ByteArray) [.string (⟨#[65]⟩ : ByteArray)] from rfl) (Reps.one (show Kd.M Kd.string _ _ _ (⟨#[95]⟩ : ByteArray) [.string (⟨#[95]⟩ : ByteArray)] from rfl) (Reps.one (show Kd.M Kd.string _ _ _ (⟨#[195, 169]⟩ : ByteArray) [.string (⟨#[195, 169]⟩ : ByteArray)] from rfl) (Reps.one (show Kd.M Kd.string _ _ _ (⟨#[97]⟩ : ByteArray) [.string (⟨#[97]⟩ : ByteArray)] from rfl) (Reps.one (show Kd.M Kd.string _ _ _ (⟨#[55]⟩ : ByteArray) [.string (⟨#[55]⟩ : ByteArray)] from rfl) (Reps.none _ _)))))))))))))); intro v241 w9 ho10 hb hg_ hnew_; clear hg_ hnew_; (first | rw [← Ny240.out] at ho10 | (simp only [Int.reduceToNat] at ho10; rw [← Ny240.out] at ho10)); have n0_ := Aside0.mk (Kd.R_lower ho10 (below_size (by repeat (first | (with_reducible first | exact HB.out | apply below_alloc | apply pw_below_drewN | apply below_drew1) | exact HB.out)))); have n1_ := Aside0.mk (below_step (by repeat (first | (with_reducible first | exact HB.out | apply below_alloc | apply pw_below_drewN | apply below_drew1) | exact HB.out)) hb); clear HB; have HO242 := n0_; have HB := n1_; clear n0_ n1_; clear hb ho10; have p243 : 0 ≤ (x4_1 : Int) := of_decide_eq_true (by first | (with_reducible assumption) | assumption); have q243 : x4_1 < (l0.length : Int) := of_decide_eq_true (by first | (with_reducible assumption) | assumption); obtain ⟨ad243, e243, hx243_0⟩ := Kd.at_int HR0.out x4_1 p243 q243; cases e243; replace hx243_0 := (HB.out.cell (World.block_lt_of_cell? w _ hx243_0)).trans hx243_0; replace p243 := eq_true p243; replace q243 := eq_true q243; obtain ⟨Ao11, co11, eo11⟩ := Kd.R_slice HO242.out; subst eo11; have p244 : 0 ≤ ((ji5) : Int) := of_decide_eq_true (by first | (with_reducible assumption) | assumption); have q244 : (ji5) < (y240.length : Int) := of_decide_eq_true (by first | (with_reducible assumption) | assumption); obtain ⟨ad244, e244, hx244_0⟩ := Kd.at_string (Kd.R_reads' HO242.out).2.2 (ji5) p244 q244; cases e244; replace p244 := eq_true p244; replace q244 := eq_true q244))
          go_roundg k1
          case measure => have := HK1.out; omega
          case rel => exact ⟨(x3_1 ++ (rdOf ByteArray.empty y240 (ji5))), (wrap64 (x4_1 + 1)), (by first | rfl | (simp; done) | (simp only [← hji5] <;> (first | rfl | simp)) | (simp [*]; done)), (by first | rfl | (simp; done) | (simp [*]; done)), H', ⟨by have := HK1.out; omega⟩, ⟨by repeat (first | (with_reducible first | exact HB.out | apply below_alloc | apply pw_below_drewN | apply below_drew1) | exact HB.out)⟩⟩
        · rw [if_neg c3] at H
          have c3b0 : decide (x4_1 < 24) = false := decide_eq_false c3
          clear c3
          obtain rfl := Option.some.inj H
          go_wp2_with (first | (go_at_call 34; refine (damperlaw1_within.keep _ _ rfl (by first | decide | assumption | exact wi_ne (by assumption) | exact wi_ne' (by assumption) | omega) _).mono ?_; rintro e w' ⟨rfl, rfl⟩))
          go_ret
          exact ⟨by first | rfl | (simp [errW_none, errW_some] <;> rfl) | (simp [*, errW_none, errW_some] <;> rfl), by repeat (first | (with_reducible first | exact HB.out | apply below_alloc | apply pw_below_drewN | apply below_drew1) | exact HB.out)⟩
      · rw [if_neg c2] at H
        have c2b0 : decide (x4_1 < (l0.length : Int)) = false := decide_eq_false c2
        clear c2
        obtain rfl := Option.some.inj H
        go_wp2_with (first | (go_at_call 34; refine (damperlaw1_within.keep _ _ rfl (by first | decide | assumption | exact wi_ne (by assumption) | exact wi_ne' (by assumption) | omega) _).mono ?_; rintro e w' ⟨rfl, rfl⟩))
        go_ret
        exact ⟨by first | rfl | (simp [errW_none, errW_some] <;> rfl) | (simp [*, errW_none, errW_some] <;> rfl), by repeat (first | (with_reducible first | exact HB.out | apply below_alloc | apply pw_below_drewN | apply below_drew1) | exact HB.out)⟩

-- NOT PRINTED: function 3 (damperlaw5_TableRight)

/-! ### damperlaw5_TableHundred: function 4 -/
mutual
def damperlaw5_TableHundred.l0 : Nat → Int → List Int → Int → List (S32) → List (S35) → Option (Bool)
  | 0, _, _, _, _, _ => none
  | k + 1, x1, x6, x7, x294000, x294001 => if x7 < (wrap64 (x1 + 100)) then ((table_Pick.f k x294000 x294001 x7).bind fun t297 => (damperlaw5_TableHundred.l1 k x1 x6 x7 t297 false 0 x294000 x294001)) else (damperlaw5_TableHundred.l2 k x6 0 x294000 x294001)
def damperlaw5_TableHundred.l1 : Nat → Int → List Int → Int → ByteArray → Bool → Int → List (S32) → List (S35) → Option (Bool)
  | 0, _, _, _, _, _, _, _, _ => none
  | k + 1, x1, x6, x7, x8, x9, x10, x294000, x294001 => if x10 < (x294000.length : Int) then (if 0 ≤ x10 then (if ((rd_T32 x294000 x10).f0).toList = x8.toList then (if x10 < (x6.length : Int) then (damperlaw5_TableHundred.l1 k x1 (x6.set (x10 : Int).toNat (wrap64 ((rd x6 x10) + 1))) x7 x8 true (wrap64 (x10 + 1)) x294000 x294001) else (none)) else (damperlaw5_TableHundred.l1 k x1 x6 x7 x8 x9 (wrap64 (x10 + 1)) x294000 x294001)) else (none)) else (if x9 = true then (damperlaw5_TableHundred.l0 k x1 x6 (wrap64 (x7 + 1)) x294000 x294001) else (some false))
def damperlaw5_TableHundred.l2 : Nat → List Int → Int → List (S32) → List (S35) → Option (Bool)
  | 0, _, _, _, _ => none
  | k + 1, x6, x11, x294000, x294001 => if x11 < (x6.length : Int) then (if 0 ≤ x11 then (if x11 < (x294000.length : Int) then (if (rd x6 x11) = ((rd_T32 x294000 x11).f1) then (damperlaw5_TableHundred.l2 k x6 (wrap64 (x11 + 1)) x294000 x294001) else (some false)) else (none)) else (none)) else (some true)
end
def damperlaw5_TableHundred.f (k : Nat) (l0 : List Int) (a1 : Int) : Option (Bool) := (damperlaw5_known.f k).bind fun t286 => (if t286 = true then ((damperlaw5_Make.f k l0 ([] : List Int)).bind fun bt287 => (if 0 ≤ (bt287.1.length : Int) then (if ((bt287.1.length : Int) : Int).toNat ≤ 35184372088832 then (damperlaw5_TableHundred.l0 k (wrap64 ((wi a1 1099511627776) - 549755813888)) (List.replicate ((bt287.1.length : Int) : Int).toNat 0) (wrap64 ((wi a1 1099511627776) - 549755813888)) bt287.1 bt287.2) else (none)) else (none))) else (some false))
theorem damperlaw5_TableHundred.mono_l : ∀ k, (∀ y0 y1 y2 y3 y4, LeO (damperlaw5_TableHundred.l0 k y0 y1 y2 y3 y4) (damperlaw5_TableHundred.l0 (k + 1) y0 y1 y2 y3 y4)) ∧ (∀ y0 y1 y2 y3 y4 y5 y6 y7, LeO (damperlaw5_TableHundred.l1 k y0 y1 y2 y3 y4 y5 y6 y7) (damperlaw5_TableHundred.l1 (k + 1) y0 y1 y2 y3 y4 y5 y6 y7)) ∧ (∀ y0 y1 y2 y3, LeO (damperlaw5_TableHundred.l2 k y0 y1 y2 y3) (damperlaw5_TableHundred.l2 (k + 1) y0 y1 y2 y3))
  | 0 => ⟨fun _ _ _ _ _ r h => by simp [damperlaw5_TableHundred.l0] at h, fun _ _ _ _ _ _ _ _ r h => by simp [damperlaw5_TableHundred.l1] at h, fun _ _ _ _ r h => by simp [damperlaw5_TableHundred.l2] at h⟩
  | k + 1 => by
    obtain ⟨ih0, ih1, ih2⟩ := damperlaw5_TableHundred.mono_l k
    refine ⟨?_, ?_, ?_⟩
    · intro y0 y1 y2 y3 y4
      unfold damperlaw5_TableHundred.l0
      repeat' first
      | (with_reducible exact ih0 _ _ _ _ _)
      | (with_reducible exact ih1 _ _ _ _ _ _ _ _)
      | (with_reducible exact ih2 _ _ _ _)
      | (with_reducible exact damperlaw5_Make.mono _ _ _)
      | (with_reducible exact damperlaw5_known.mono _)
      | (with_reducible exact table_Pick.mono _ _ _ _)
      | (with_reducible exact LeO.refl _)
      | (with_reducible exact LeO.none _)
      | (with_reducible refine LeO.ite ?_ ?_)
      | (with_reducible refine LeO.bind ?_ (fun _ => ?_))
      | exact ih0 _ _ _ _ _
      | exact ih1 _ _ _ _ _ _ _ _
      | exact ih2 _ _ _ _
      | exact damperlaw5_Make.mono _ _ _
      | exact damperlaw5_known.mono _
      | exact table_Pick.mono _ _ _ _
      | exact LeO.none _
      | refine LeO.ite ?_ ?_
      | refine LeO.bind ?_ (fun _ => ?_)
    · intro y0 y1 y2 y3 y4 y5 y6 y7
      unfold damperlaw5_TableHundred.l1
      repeat' first
      | (with_reducible exact ih0 _ _ _ _ _)
      | (with_reducible exact ih1 _ _ _ _ _ _ _ _)
      | (with_reducible exact ih2 _ _ _ _)
      | (with_reducible exact damperlaw5_Make.mono _ _ _)
      | (with_reducible exact damperlaw5_known.mono _)
      | (with_reducible exact table_Pick.mono _ _ _ _)
      | (with_reducible exact LeO.refl _)
      | (with_reducible exact LeO.none _)
      | (with_reducible refine LeO.ite ?_ ?_)
      | (with_reducible refine LeO.bind ?_ (fun _ => ?_))
      | exact ih0 _ _ _ _ _
      | exact ih1 _ _ _ _ _ _ _ _
      | exact ih2 _ _ _ _
      | exact damperlaw5_Make.mono _ _ _
      | exact damperlaw5_known.mono _
      | exact table_Pick.mono _ _ _ _
      | exact LeO.none _
      | refine LeO.ite ?_ ?_
      | refine LeO.bind ?_ (fun _ => ?_)
    · intro y0 y1 y2 y3
      unfold damperlaw5_TableHundred.l2
      repeat' first
      | (with_reducible exact ih0 _ _ _ _ _)
      | (with_reducible exact ih1 _ _ _ _ _ _ _ _)
      | (with_reducible exact ih2 _ _ _ _)
      | (with_reducible exact damperlaw5_Make.mono _ _ _)
      | (with_reducible exact damperlaw5_known.mono _)
      | (with_reducible exact table_Pick.mono _ _ _ _)
      | (with_reducible exact LeO.refl _)
      | (with_reducible exact LeO.none _)
      | (with_reducible refine LeO.ite ?_ ?_)
      | (with_reducible refine LeO.bind ?_ (fun _ => ?_))
      | exact ih0 _ _ _ _ _
      | exact ih1 _ _ _ _ _ _ _ _
      | exact ih2 _ _ _ _
      | exact damperlaw5_Make.mono _ _ _
      | exact damperlaw5_known.mono _
      | exact table_Pick.mono _ _ _ _
      | exact LeO.none _
      | refine LeO.ite ?_ ?_
      | refine LeO.bind ?_ (fun _ => ?_)
theorem damperlaw5_TableHundred.mono : ∀ a0 a1 k, LeO (damperlaw5_TableHundred.f k a0 a1) (damperlaw5_TableHundred.f (k + 1) a0 a1) := by
  intro a0 a1 k
  obtain ⟨ih0, ih1, ih2⟩ := damperlaw5_TableHundred.mono_l k
  unfold damperlaw5_TableHundred.f
  repeat' first
      | (with_reducible exact ih0 _ _ _ _ _)
      | (with_reducible exact ih1 _ _ _ _ _ _ _ _)
      | (with_reducible exact ih2 _ _ _ _)
      | (with_reducible exact damperlaw5_Make.mono _ _ _)
      | (with_reducible exact damperlaw5_known.mono _)
      | (with_reducible exact table_Pick.mono _ _ _ _)
      | (with_reducible exact LeO.refl _)
      | (with_reducible exact LeO.none _)
      | (with_reducible refine LeO.ite ?_ ?_)
      | (with_reducible refine LeO.bind ?_ (fun _ => ?_))
      | exact ih0 _ _ _ _ _
      | exact ih1 _ _ _ _ _ _ _ _
      | exact ih2 _ _ _ _
      | exact damperlaw5_Make.mono _ _ _
      | exact damperlaw5_known.mono _
      | exact table_Pick.mono _ _ _ _
      | exact LeO.none _
      | refine LeO.ite ?_ ?_
      | refine LeO.bind ?_ (fun _ => ?_)
set_option maxHeartbeats 8000000 in
set_option maxRecDepth 100000 in
theorem damperlaw5_TableHundred.calls (k : Nat) (A0 : Option Addr) (c0 : Nat) (l0 : List Int) (a1 : Int) (r : Bool) (w : World) (hLd_ : Aside0 (LaidW w)) (hr0 : Kd.C (Kd.int .i64) w A0 l0.length l0) (hc0 : l0.length ≤ c0) (hr0_ : Aside0 (r = true)) (h : damperlaw5_TableHundred.f k l0 a1 = some r) :
    Calls Tryd.prog 4 #[.slice A0 l0.length c0, .int .i64 a1] w fun e w' => e = .returned (.bool r) ∧ Below w.heap.size w w' := by
  have hu25 := Tryd.underlying25
  have HR0 := Aside0.mk hr0
  have HC0 := Aside0.mk hc0
  clear hr0 hc0
  have HB := Aside0.mk (Below.refl w.heap.size w)
  have H : ((damperlaw5_known.f k).bind fun t286 => (if t286 = true then ((damperlaw5_Make.f k l0 ([] : List Int)).bind fun bt287 => (if 0 ≤ (bt287.1.length : Int) then (if ((bt287.1.length : Int) : Int).toNat ≤ 35184372088832 then (damperlaw5_TableHundred.l0 k (wrap64 ((wi a1 1099511627776) - 549755813888)) (List.replicate ((bt287.1.length : Int) : Int).toNat 0) (wrap64 ((wi a1 1099511627776) - 549755813888)) bt287.1 bt287.2) else (none)) else (none))) else (some false))) = some r := h
  clear h
  replace H := Option.bind_eq_some_iff.mp H
  obtain ⟨t286, A30, H⟩ := H
  replace H : (if t286 = true then ((damperlaw5_Make.f k l0 ([] : List Int)).bind fun bt287 => (if 0 ≤ (bt287.1.length : Int) then (if ((bt287.1.length : Int) : Int).toNat ≤ 35184372088832 then (damperlaw5_TableHundred.l0 k (wrap64 ((wi a1 1099511627776) - 549755813888)) (List.replicate ((bt287.1.length : Int) : Int).toNat 0) (wrap64 ((wi a1 1099511627776) - 549755813888)) bt287.1 bt287.2) else (none)) else (none))) else (some false)) = some r := H
  have A3 := Aside0.mk A30
  clear A30
  by_cases c4 : t286 = true
  · subst c4
    have H1 : ((damperlaw5_Make.f k l0 ([] : List Int)).bind fun bt287 => (if 0 ≤ (bt287.1.length : Int) then (if ((bt287.1.length : Int) : Int).toNat ≤ 35184372088832 then (damperlaw5_TableHundred.l0 k (wrap64 ((wi a1 1099511627776) - 549755813888)) (List.replicate ((bt287.1.length : Int) : Int).toNat 0) (wrap64 ((wi a1 1099511627776) - 549755813888)) bt287.1 bt287.2) else (none)) else (none))) = some r := by rw [if_pos rfl] at H; exact H
    clear H
    have H := H1
    clear H1
    replace H := Option.bind_eq_some_iff.mp H
    obtain ⟨⟨t287, t290⟩, A50, H⟩ := H
    replace H : (if 0 ≤ (t287.length : Int) then (if ((t287.length : Int) : Int).toNat ≤ 35184372088832 then (damperlaw5_TableHundred.l0 k (wrap64 ((wi a1 1099511627776) - 549755813888)) (List.replicate ((t287.length : Int) : Int).toNat 0) (wrap64 ((wi a1 1099511627776) - 549755813888)) t287 t290) else (none)) else (none)) = some r := H
    have A5 := Aside0.mk A50
    clear A50
    obtain ⟨ji6, hji6⟩ : ∃ j_ : Int, (wi a1 1099511627776) = j_ := ⟨_, rfl⟩
    replace H : (if 0 ≤ (t287.length : Int) then (if ((t287.length : Int) : Int).toNat ≤ 35184372088832 then (damperlaw5_TableHundred.l0 k (wrap64 ((ji6) - 549755813888)) (List.replicate ((t287.length : Int) : Int).toNat 0) (wrap64 ((ji6) - 549755813888)) t287 t290) else (none)) else (none)) = some r := by first | (rw [hji6] at H; exact H) | (simp only [hji6] at H ⊢; exact H)
    (try rw [hji6] at A3)
    (try rw [hji6] at A5)
    by_cases c7 : 0 ≤ (t287.length : Int)
    rotate_left
    · rw [if_neg c7] at H
      exact absurd H (by simp)
    rw [if_pos c7] at H
    have c7b0 := eq_true c7
    have c7b1 : decide (0 ≤ (t287.length : Int)) = true := decide_eq_true c7
    try have c7bm : max (t287.length : Int) 0 = (t287.length : Int) := Int.max_eq_left c7
    clear c7
    by_cases c8 : ((t287.length : Int) : Int).toNat ≤ 35184372088832
    rotate_left
    · rw [if_neg c8] at H
      exact absurd H (by simp)
    rw [if_pos c8] at H
    have c8b0 := eq_true c8
    have c8b1 : decide (((t287.length : Int) : Int).toNat ≤ 35184372088832) = true := decide_eq_true c8
    clear c8
    obtain ⟨y294, hy294⟩ : ∃ y_ : List Int, y_ = (List.replicate ((t287.length : Int) : Int).toNat 0) := ⟨_, rfl⟩
    replace H : (damperlaw5_TableHundred.l0 k (wrap64 ((ji6) - 549755813888)) y294 (wrap64 ((ji6) - 549755813888)) t287 t290) = some r := by first | (rw [hy294]; with_reducible exact H) | (have H2_ := (Option.bind_some _ _).symm.trans H; rw [hy294]; with_reducible exact H2_) | (have H2_ := (Option.bind_some _ _).symm.trans H; with_reducible exact H2_) | with_reducible exact H | (rw [hy294]; exact H) | exact H
    have Ny294 := Aside0.mk hy294
    clear hy294
    have H' := Aside0.mk H
    clear H
    go_enter Tryd.func4, Tryd.ntmps4
    go_wp2_with (first | (go_at_call 14; refine (damperlaw5_within.keep _ _ rfl (by first | decide | assumption | exact wi_ne (by assumption) | exact wi_ne' (by assumption) | omega) _).mono ?_; rintro e w' ⟨rfl, rfl⟩) | (go_at_call 9; (with_reducible refine (damperlaw5_known.calls k  true _ ?side1 A3.out).mono ?_); (case side1 => first | exact hLd_.out | exact hLd_ | exact ⟨LaidW.below hLd_.out (by repeat (first | (with_reducible first | exact HB.out | apply below_alloc | apply pw_below_drewN | apply below_drew1) | exact HB.out))⟩ | exact ⟨LaidW.below hLd_.out (by repeat (first | exact Below.refl _ _ | apply below_alloc | apply pw_below_drewN | apply below_drew1))⟩); rintro e w9 ⟨rfl, hb⟩; have n0_ := Aside0.mk (below_step (by repeat (first | (with_reducible first | exact HB.out | apply below_alloc | apply pw_below_drewN | apply below_drew1) | exact HB.out)) hb); clear HB; have HB := n0_; clear n0_; (try clear hb); (try clear hb2); (try clear hk); (try clear hi)) | (go_at_call 11; (refine (damperlaw5_Make.calls k _ _ l0 _ _ ([] : List Int) t287 t290 _ ?side1 ?side2 ?side3 ?side4 A5.out).mono ?_); (case side1 => repeat (first | exact (Kd.C_below HR0.out HB.out) | (with_reducible refine Kd.C_alloc ?_ _) | (with_reducible refine Kd.C_drewN ?_ _) | (with_reducible refine Kd.C_drew ?_))); (case side2 => exact HC0.out); (case side3 => exact Kd.C_nil _ _); (case side4 => exact Nat.le_refl _); rintro e w10 ⟨v288, v291, rfl, ho0, ho1, hb⟩; have n0_ := Aside0.mk (Kd.R_lower ho0 (below_size (by repeat (first | (with_reducible first | exact HB.out | apply below_alloc | apply pw_below_drewN | apply below_drew1) | exact HB.out)))); have n1_ := Aside0.mk (Kd.R_lower ho1 (below_size (by repeat (first | (with_reducible first | exact HB.out | apply below_alloc | apply pw_below_drewN | apply below_drew1) | exact HB.out)))); have n2_ := Aside0.mk (below_step (by repeat (first | (with_reducible first | exact HB.out | apply below_alloc | apply pw_below_drewN | apply below_drew1) | exact HB.out)) hb); clear HB; have HO289 := n0_; have HO292 := n1_; have HB := n2_; clear n0_ n1_ n2_; (try clear hb); (try clear hb2); (try clear hk); (try clear hi); (try clear ho0); (try clear ho1)) | ((with_reducible refine gate_dst (N := 5) rfl ?_); refine box_event ?hg (N := 5) ?hd (cs := #[.slice none 0 0, .slice none 0 0]) (t := 25) ?hr ?_; (case hd => rfl); (case hg => rfl); (case hr => first | (go_simp; done) | (go_simp; rfl)); intro gb293 hg w11 hbox hb; have n0_ := Aside0.mk (Kd.R_below (by (with_reducible repeat (first | apply Kd.R_alloc | apply Kd.R_drewN | apply Kd.R_drew)); exact HO289.out) hb); have n1_ := Aside0.mk (Kd.R_below (by (with_reducible repeat (first | apply Kd.R_alloc | apply Kd.R_drewN | apply Kd.R_drew)); exact HO292.out) hb); have n2_ := Aside0.mk (below_step (by repeat (first | (with_reducible first | exact HB.out | apply below_alloc | apply pw_below_drewN | apply below_drew1) | exact HB.out)) hb); have n3_ := Aside0.mk (hbox); have n4_ := Aside0.mk ((by rw [hg]; exact (below_size (by repeat (first | (with_reducible first | exact HB.out | apply below_alloc | apply pw_below_drewN | apply below_drew1) | exact HB.out))) : w.heap.size ≤ gb293)); have n5_ := Aside0.mk ((by rw [hg]; exact (below_size (by repeat (first | (with_reducible first | exact HB.out | apply below_alloc | apply pw_below_drewN | apply below_drew1) | exact HB.out))) : w.heap.size ≤ gb293)); clear HO289; clear HO292; clear HB; have HO289 := n0_; have HO292 := n1_; have HB := n2_; have BK293 := n3_; have GW293 := n4_; have GE293 := n5_; clear n0_ n1_ n2_ n3_ n4_ n5_; clear hb hbox hg; obtain ⟨Ao12, co12, eo12⟩ := Kd.R_slice HO289.out; subst eo12; have hcz13_0 : w11.cell? ⟨gb293, 0, none⟩ = some (.slice none 0 0) := bc BK293 0; have hcz13_1 : w11.cell? ⟨gb293, 1, none⟩ = some (.slice none 0 0) := bc BK293 1; have hfz13_0 := blk_frozen BK293.out 0; have hfz13_1 := blk_frozen BK293.out 1; obtain ⟨Ao14, co14, eo14⟩ := Kd.R_slice HO292.out; subst eo14) | ((with_reducible refine gate_dst (N := 22) rfl ?_); refine Kd.R_make (Kd.int .i64) _ 3 rfl (N := 22) rfl 26 _ _ rfl (t287.length : Int) rfl rfl Tryd.underlying26 (.int .i64 0) 8 info3 rfl (by decide) (by omega) 0 (ok := fun _ => True) (okp := fun _ => True) rfl (fun _ hk => hk) trivial (of_decide_eq_true (by first | (with_reducible assumption) | assumption)) (Nat.le_trans (Nat.mul_le_mul_right _ (of_decide_eq_true (by first | (with_reducible assumption) | assumption) : (t287.length : Int).toNat ≤ 35184372088832)) (by omega)) (Below.refl _ _) (Nat.le_refl _) ?_; intro v295 w15 ho16 hb hg_ hnew_; clear hg_ hnew_; (first | rw [← Ny294.out] at ho16 | (simp only [Int.reduceToNat] at ho16; rw [← Ny294.out] at ho16)); have n0_ := Aside0.mk (Kd.R_below (by (with_reducible repeat (first | apply Kd.R_alloc | apply Kd.R_drewN | apply Kd.R_drew)); exact (Kd.R_mono (Kd.R_far (p := ⟨gb293, 1, none⟩) (Kd.R_far (p := ⟨gb293, 0, none⟩) (Kd.R_types HO289.out BK293.out (by decide)) (fun _ hk => hk.2) (.slice Ao12 t287.length co12)) (fun _ hk => hk.2) (.slice Ao14 t290.length co14)) (fun _ h_ => h_.1))) hb); have n1_ := Aside0.mk (Kd.R_below (by (with_reducible repeat (first | apply Kd.R_alloc | apply Kd.R_drewN | apply Kd.R_drew)); exact (Kd.R_mono (Kd.R_far (p := ⟨gb293, 1, none⟩) (Kd.R_far (p := ⟨gb293, 0, none⟩) (Kd.R_types HO292.out BK293.out (by decide)) (fun _ hk => hk.2) (.slice Ao12 t287.length co12)) (fun _ hk => hk.2) (.slice Ao14 t290.length co14)) (fun _ h_ => h_.1))) hb); have n2_ := Aside0.mk (Kd.R_lower ho16 (below_size (by repeat (first | (with_reducible first | exact HB.out | apply below_alloc | apply pw_below_drewN | apply below_drew1 | refine below_set ?_ GE293.out) | exact HB.out)))); have n3_ := Aside0.mk (blk_below (g := gb293) (o := .cells #[.slice Ao12 t287.length co12, .slice Ao14 t290.length co14] 25 (0, 0)) (by (with_reducible repeat (first | refine blk_drewN ?_ _ | refine blk_drew ?_ | refine blk_alloc ?_ _)); refine blk_put (cs := #[.slice Ao12 t287.length co12, .slice none 0 0]) ?_ 1 _ rfl; (with_reducible repeat (first | refine blk_drewN ?_ _ | refine blk_drew ?_ | refine blk_alloc ?_ _)); refine blk_put (cs := #[.slice none 0 0, .slice none 0 0]) ?_ 0 _ rfl; (with_reducible repeat (first | refine blk_drewN ?_ _ | refine blk_drew ?_ | refine blk_alloc ?_ _)); exact BK293.out) hb); have n4_ := Aside0.mk (below_step (by repeat (first | (with_reducible first | exact HB.out | apply below_alloc | apply pw_below_drewN | apply below_drew1 | refine below_set ?_ GE293.out) | exact HB.out)) hb); clear HO289; clear HO292; clear BK293; clear HB; have HO289 := n0_; have HO292 := n1_; have HO296 := n2_; have BK293 := n3_; have HB := n4_; clear n0_ n1_ n2_ n3_ n4_; clear hb ho16))
    repeat (go_quiet (first | (go_at_call 14; exact Calls.quiet_of_same (damperlaw5_within.same _ _ rfl (by first | decide | assumption | exact wi_ne (by assumption) | exact wi_ne' (by assumption) | omega) _)) | (go_at_call 9; (with_reducible refine (damperlaw5_known.calls k  true _ ?side1 A3.out).mono ?_); (case side1 => first | exact hLd_.out | exact hLd_ | exact ⟨LaidW.below hLd_.out (by repeat (first | (with_reducible first | exact HB.out | apply below_alloc | apply pw_below_drewN | apply below_drew1) | exact HB.out))⟩ | exact ⟨LaidW.below hLd_.out (by repeat (first | exact Below.refl _ _ | apply below_alloc | apply pw_below_drewN | apply below_drew1))⟩); rintro e w9 ⟨rfl, hb⟩; have n0_ := Aside0.mk (below_step (by repeat (first | (with_reducible first | exact HB.out | apply below_alloc | apply pw_below_drewN | apply below_drew1) | exact HB.out)) hb); clear HB; have HB := n0_; clear n0_; (try clear hb); (try clear hb2); (try clear hk); (try clear hi)) | (go_at_call 11; (refine (damperlaw5_Make.calls k _ _ l0 _ _ ([] : List Int) t287 t290 _ ?side1 ?side2 ?side3 ?side4 A5.out).mono ?_); (case side1 => repeat (first | exact (Kd.C_below HR0.out HB.out) | (with_reducible refine Kd.C_alloc ?_ _) | (with_reducible refine Kd.C_drewN ?_ _) | (with_reducible refine Kd.C_drew ?_))); (case side2 => exact HC0.out); (case side3 => exact Kd.C_nil _ _); (case side4 => exact Nat.le_refl _); rintro e w10 ⟨v288, v291, rfl, ho0, ho1, hb⟩; have n0_ := Aside0.mk (Kd.R_lower ho0 (below_size (by repeat (first | (with_reducible first | exact HB.out | apply below_alloc | apply pw_below_drewN | apply below_drew1) | exact HB.out)))); have n1_ := Aside0.mk (Kd.R_lower ho1 (below_size (by repeat (first | (with_reducible first | exact HB.out | apply below_alloc | apply pw_below_drewN | apply below_drew1) | exact HB.out)))); have n2_ := Aside0.mk (below_step (by repeat (first | (with_reducible first | exact HB.out | apply below_alloc | apply pw_below_drewN | apply below_drew1) | exact HB.out)) hb); clear HB; have HO289 := n0_; have HO292 := n1_; have HB := n2_; clear n0_ n1_ n2_; (try clear hb); (try clear hb2); (try clear hk); (try clear hi); (try clear ho0); (try clear ho1)) | ((with_reducible refine gate_dst (N := 5) rfl ?_); refine box_event ?hg (N := 5) ?hd (cs := #[.slice none 0 0, .slice none 0 0]) (t := 25) ?hr ?_; (case hd => rfl); (case hg => rfl); (case hr => first | (go_simp; done) | (go_simp; rfl)); intro gb293 hg w11 hbox hb; have n0_ := Aside0.mk (Kd.R_below (by (with_reducible repeat (first | apply Kd.R_alloc | apply Kd.R_drewN | apply Kd.R_drew)); exact HO289.out) hb); have n1_ := Aside0.mk (Kd.R_below (by (with_reducible repeat (first | apply Kd.R_alloc | apply Kd.R_drewN | apply Kd.R_drew)); exact HO292.out) hb); have n2_ := Aside0.mk (below_step (by repeat (first | (with_reducible first | exact HB.out | apply below_alloc | apply pw_below_drewN | apply below_drew1) | exact HB.out)) hb); have n3_ := Aside0.mk (hbox); have n4_ := Aside0.mk ((by rw [hg]; exact (below_size (by repeat (first | (with_reducible first | exact HB.out | apply below_alloc | apply pw_below_drewN | apply below_drew1) | exact HB.out))) : w.heap.size ≤ gb293)); have n5_ := Aside0.mk ((by rw [hg]; exact (below_size (by repeat (first | (with_reducible first | exact HB.out | apply below_alloc | apply pw_below_drewN | apply below_drew1) | exact HB.out))) : w.heap.size ≤ gb293)); clear HO289; clear HO292; clear HB; have HO289 := n0_; have HO292 := n1_; have HB := n2_; have BK293 := n3_; have GW293 := n4_; have GE293 := n5_; clear n0_ n1_ n2_ n3_ n4_ n5_; clear hb hbox hg; obtain ⟨Ao12, co12, eo12⟩ := Kd.R_slice HO289.out; subst eo12; have hcz13_0 : w11.cell? ⟨gb293, 0, none⟩ = some (.slice none 0 0) := bc BK293 0; have hcz13_1 : w11.cell? ⟨gb293, 1, none⟩ = some (.slice none 0 0) := bc BK293 1; have hfz13_0 := blk_frozen BK293.out 0; have hfz13_1 := blk_frozen BK293.out 1; obtain ⟨Ao14, co14, eo14⟩ := Kd.R_slice HO292.out; subst eo14) | ((with_reducible refine gate_dst (N := 22) rfl ?_); refine Kd.R_make (Kd.int .i64) _ 3 rfl (N := 22) rfl 26 _ _ rfl (t287.length : Int) rfl rfl Tryd.underlying26 (.int .i64 0) 8 info3 rfl (by decide) (by omega) 0 (ok := fun _ => True) (okp := fun _ => True) rfl (fun _ hk => hk) trivial (of_decide_eq_true (by first | (with_reducible assumption) | assumption)) (Nat.le_trans (Nat.mul_le_mul_right _ (of_decide_eq_true (by first | (with_reducible assumption) | assumption) : (t287.length : Int).toNat ≤ 35184372088832)) (by omega)) (Below.refl _ _) (Nat.le_refl _) ?_; intro v295 w15 ho16 hb hg_ hnew_; clear hg_ hnew_; (first | rw [← Ny294.out] at ho16 | (simp only [Int.reduceToNat] at ho16; rw [← Ny294.out] at ho16)); have n0_ := Aside0.mk (Kd.R_below (by (with_reducible repeat (first | apply Kd.R_alloc | apply Kd.R_drewN | apply Kd.R_drew)); exact (Kd.R_mono (Kd.R_far (p := ⟨gb293, 1, none⟩) (Kd.R_far (p := ⟨gb293, 0, none⟩) (Kd.R_types HO289.out BK293.out (by decide)) (fun _ hk => hk.2) (.slice Ao12 t287.length co12)) (fun _ hk => hk.2) (.slice Ao14 t290.length co14)) (fun _ h_ => h_.1))) hb); have n1_ := Aside0.mk (Kd.R_below (by (with_reducible repeat (first | apply Kd.R_alloc | apply Kd.R_drewN | apply Kd.R_drew)); exact (Kd.R_mono (Kd.R_far (p := ⟨gb293, 1, none⟩) (Kd.R_far (p := ⟨gb293, 0, none⟩) (Kd.R_types HO292.out BK293.out (by decide)) (fun _ hk => hk.2) (.slice Ao12 t287.length co12)) (fun _ hk => hk.2) (.slice Ao14 t290.length co14)) (fun _ h_ => h_.1))) hb); have n2_ := Aside0.mk (Kd.R_lower ho16 (below_size (by repeat (first | (with_reducible first | exact HB.out | apply below_alloc | apply pw_below_drewN | apply below_drew1 | refine below_set ?_ GE293.out) | exact HB.out)))); have n3_ := Aside0.mk (blk_below (g := gb293) (o := .cells #[.slice Ao12 t287.length co12, .slice Ao14 t290.length co14] 25 (0, 0)) (by (with_reducible repeat (first | refine blk_drewN ?_ _ | refine blk_drew ?_ | refine blk_alloc ?_ _)); refine blk_put (cs := #[.slice Ao12 t287.length co12, .slice none 0 0]) ?_ 1 _ rfl; (with_reducible repeat (first | refine blk_drewN ?_ _ | refine blk_drew ?_ | refine blk_alloc ?_ _)); refine blk_put (cs := #[.slice none 0 0, .slice none 0 0]) ?_ 0 _ rfl; (with_reducible repeat (first | refine blk_drewN ?_ _ | refine blk_drew ?_ | refine blk_alloc ?_ _)); exact BK293.out) hb); have n4_ := Aside0.mk (below_step (by repeat (first | (with_reducible first | exact HB.out | apply below_alloc | apply pw_below_drewN | apply below_drew1 | refine below_set ?_ GE293.out) | exact HB.out)) hb); clear HO289; clear HO292; clear BK293; clear HB; have HO289 := n0_; have HO292 := n1_; have HO296 := n2_; have BK293 := n3_; have HB := n4_; clear n0_ n1_ n2_ n3_ n4_; clear hb ho16)); try go_wp2_with (first | (go_at_call 14; refine (damperlaw5_within.keep _ _ rfl (by first | decide | assumption | exact wi_ne (by assumption) | exact wi_ne' (by assumption) | omega) _).mono ?_; rintro e w' ⟨rfl, rfl⟩) | (go_at_call 9; (with_reducible refine (damperlaw5_known.calls k  true _ ?side1 A3.out).mono ?_); (case side1 => first | exact hLd_.out | exact hLd_ | exact ⟨LaidW.below hLd_.out (by repeat (first | (with_reducible first | exact HB.out | apply below_alloc | apply pw_below_drewN | apply below_drew1) | exact HB.out))⟩ | exact ⟨LaidW.below hLd_.out (by repeat (first | exact Below.refl _ _ | apply below_alloc | apply pw_below_drewN | apply below_drew1))⟩); rintro e w9 ⟨rfl, hb⟩; have n0_ := Aside0.mk (below_step (by repeat (first | (with_reducible first | exact HB.out | apply below_alloc | apply pw_below_drewN | apply below_drew1) | exact HB.out)) hb); clear HB; have HB := n0_; clear n0_; (try clear hb); (try clear hb2); (try clear hk); (try clear hi)) | (go_at_call 11; (refine (damperlaw5_Make.calls k _ _ l0 _ _ ([] : List Int) t287 t290 _ ?side1 ?side2 ?side3 ?side4 A5.out).mono ?_); (case side1 => repeat (first | exact (Kd.C_below HR0.out HB.out) | (with_reducible refine Kd.C_alloc ?_ _) | (with_reducible refine Kd.C_drewN ?_ _) | (with_reducible refine Kd.C_drew ?_))); (case side2 => exact HC0.out); (case side3 => exact Kd.C_nil _ _); (case side4 => exact Nat.le_refl _); rintro e w10 ⟨v288, v291, rfl, ho0, ho1, hb⟩; have n0_ := Aside0.mk (Kd.R_lower ho0 (below_size (by repeat (first | (with_reducible first | exact HB.out | apply below_alloc | apply pw_below_drewN | apply below_drew1) | exact HB.out)))); have n1_ := Aside0.mk (Kd.R_lower ho1 (below_size (by repeat (first | (with_reducible first | exact HB.out | apply below_alloc | apply pw_below_drewN | apply below_drew1) | exact HB.out)))); have n2_ := Aside0.mk (below_step (by repeat (first | (with_reducible first | exact HB.out | apply below_alloc | apply pw_below_drewN | apply below_drew1) | exact HB.out)) hb); clear HB; have HO289 := n0_; have HO292 := n1_; have HB := n2_; clear n0_ n1_ n2_; (try clear hb); (try clear hb2); (try clear hk); (try clear hi); (try clear ho0); (try clear ho1)) | ((with_reducible refine gate_dst (N := 5) rfl ?_); refine box_event ?hg (N := 5) ?hd (cs := #[.slice none 0 0, .slice none 0 0]) (t := 25) ?hr ?_; (case hd => rfl); (case hg => rfl); (case hr => first | (go_simp; done) | (go_simp; rfl)); intro gb293 hg w11 hbox hb; have n0_ := Aside0.mk (Kd.R_below (by (with_reducible repeat (first | apply Kd.R_alloc | apply Kd.R_drewN | apply Kd.R_drew)); exact HO289.out) hb); have n1_ := Aside0.mk (Kd.R_below (by (with_reducible repeat (first | apply Kd.R_alloc | apply Kd.R_drewN | apply Kd.R_drew)); exact HO292.out) hb); have n2_ := Aside0.mk (below_step (by repeat (first | (with_reducible first | exact HB.out | apply below_alloc | apply pw_below_drewN | apply below_drew1) | exact HB.out)) hb); have n3_ := Aside0.mk (hbox); have n4_ := Aside0.mk ((by rw [hg]; exact (below_size (by repeat (first | (with_reducible first | exact HB.out | apply below_alloc | apply pw_below_drewN | apply below_drew1) | exact HB.out))) : w.heap.size ≤ gb293)); have n5_ := Aside0.mk ((by rw [hg]; exact (below_size (by repeat (first | (with_reducible first | exact HB.out | apply below_alloc | apply pw_below_drewN | apply below_drew1) | exact HB.out))) : w.heap.size ≤ gb293)); clear HO289; clear HO292; clear HB; have HO289 := n0_; have HO292 := n1_; have HB := n2_; have BK293 := n3_; have GW293 := n4_; have GE293 := n5_; clear n0_ n1_ n2_ n3_ n4_ n5_; clear hb hbox hg; obtain ⟨Ao12, co12, eo12⟩ := Kd.R_slice HO289.out; subst eo12; have hcz13_0 : w11.cell? ⟨gb293, 0, none⟩ = some (.slice none 0 0) := bc BK293 0; have hcz13_1 : w11.cell? ⟨gb293, 1, none⟩ = some (.slice none 0 0) := bc BK293 1; have hfz13_0 := blk_frozen BK293.out 0; have hfz13_1 := blk_frozen BK293.out 1; obtain ⟨Ao14, co14, eo14⟩ := Kd.R_slice HO292.out; subst eo14) | ((with_reducible refine gate_dst (N := 22) rfl ?_); refine Kd.R_make (Kd.int .i64) _ 3 rfl (N := 22) rfl 26 _ _ rfl (t287.length : Int) rfl rfl Tryd.underlying26 (.int .i64 0) 8 info3 rfl (by decide) (by omega) 0 (ok := fun _ => True) (okp := fun _ => True) rfl (fun _ hk => hk) trivial (of_decide_eq_true (by first | (with_reducible assumption) | assumption)) (Nat.le_trans (Nat.mul_le_mul_right _ (of_decide_eq_true (by first | (with_reducible assumption) | assumption) : (t287.length : Int).toNat ≤ 35184372088832)) (by omega)) (Below.refl _ _) (Nat.le_refl _) ?_; intro v295 w15 ho16 hb hg_ hnew_; clear hg_ hnew_; (first | rw [← Ny294.out] at ho16 | (simp only [Int.reduceToNat] at ho16; rw [← Ny294.out] at ho16)); have n0_ := Aside0.mk (Kd.R_below (by (with_reducible repeat (first | apply Kd.R_alloc | apply Kd.R_drewN | apply Kd.R_drew)); exact (Kd.R_mono (Kd.R_far (p := ⟨gb293, 1, none⟩) (Kd.R_far (p := ⟨gb293, 0, none⟩) (Kd.R_types HO289.out BK293.out (by decide)) (fun _ hk => hk.2) (.slice Ao12 t287.length co12)) (fun _ hk => hk.2) (.slice Ao14 t290.length co14)) (fun _ h_ => h_.1))) hb); have n1_ := Aside0.mk (Kd.R_below (by (with_reducible repeat (first | apply Kd.R_alloc | apply Kd.R_drewN | apply Kd.R_drew)); exact (Kd.R_mono (Kd.R_far (p := ⟨gb293, 1, none⟩) (Kd.R_far (p := ⟨gb293, 0, none⟩) (Kd.R_types HO292.out BK293.out (by decide)) (fun _ hk => hk.2) (.slice Ao12 t287.length co12)) (fun _ hk => hk.2) (.slice Ao14 t290.length co14)) (fun _ h_ => h_.1))) hb); have n2_ := Aside0.mk (Kd.R_lower ho16 (below_size (by repeat (first | (with_reducible first | exact HB.out | apply below_alloc | apply pw_below_drewN | apply below_drew1 | refine below_set ?_ GE293.out) | exact HB.out)))); have n3_ := Aside0.mk (blk_below (g := gb293) (o := .cells #[.slice Ao12 t287.length co12, .slice Ao14 t290.length co14] 25 (0, 0)) (by (with_reducible repeat (first | refine blk_drewN ?_ _ | refine blk_drew ?_ | refine blk_alloc ?_ _)); refine blk_put (cs := #[.slice Ao12 t287.length co12, .slice none 0 0]) ?_ 1 _ rfl; (with_reducible repeat (first | refine blk_drewN ?_ _ | refine blk_drew ?_ | refine blk_alloc ?_ _)); refine blk_put (cs := #[.slice none 0 0, .slice none 0 0]) ?_ 0 _ rfl; (with_reducible repeat (first | refine blk_drewN ?_ _ | refine blk_drew ?_ | refine blk_alloc ?_ _)); exact BK293.out) hb); have n4_ := Aside0.mk (below_step (by repeat (first | (with_reducible first | exact HB.out | apply below_alloc | apply pw_below_drewN | apply below_drew1 | refine below_set ?_ GE293.out) | exact HB.out)) hb); clear HO289; clear HO292; clear BK293; clear HB; have HO289 := n0_; have HO292 := n1_; have HO296 := n2_; have BK293 := n3_; have HB := n4_; clear n0_ n1_ n2_ n3_ n4_; clear hb ho16)))
    go_loopg [7] k (fun kq v7 w' => ∃ (x6_1 : List Int) (x7_1 : Int), v7 = .int .i64 x7_1 ∧ Aside0 (damperlaw5_TableHundred.l0 kq (wrap64 ((ji6) - 549755813888)) x6_1 x7_1 t287 t290 = some r) ∧ Aside0 (kq ≤ k) ∧ Aside0 (Kd.R (Kd.int .i64) 3 w' w.heap.size (fun _ => True) v295 x6_1) ∧ Aside0 (Kd.R k32 32 w' w.heap.size (fun _ => True) (.slice Ao12 t287.length co12) t287) ∧ Aside0 (Kd.R k35 35 w' w.heap.size (fun _ => True) (.slice Ao14 t290.length co14) t290) ∧ Aside0 (w'.heap[gb293]? = some (.cells #[(.slice Ao12 t287.length co12), (.slice Ao14 t290.length co14)] 25 (0, 0))) ∧ Aside0 (Below w.heap.size w w'))
    case atStart => exact ⟨(y294), (wrap64 ((ji6) - 549755813888)), (by first | rfl | (simp; done) | (simp only [← hji6] <;> (first | rfl | simp)) | (simp [*]; done)), H', ⟨Nat.le_refl _⟩, ⟨by (with_reducible repeat (first | apply Kd.R_alloc | apply Kd.R_drewN | apply Kd.R_drew)); exact HO296.out⟩, ⟨by (with_reducible repeat (first | apply Kd.R_alloc | apply Kd.R_drewN | apply Kd.R_drew)); exact HO289.out⟩, ⟨by (with_reducible repeat (first | apply Kd.R_alloc | apply Kd.R_drewN | apply Kd.R_drew)); exact HO292.out⟩, ⟨by (with_reducible repeat (first | refine blk_drewN ?_ _ | refine blk_drew ?_ | refine blk_alloc ?_ _)); exact BK293.out⟩, ⟨by repeat (first | (with_reducible first | exact HB.out | apply below_alloc | apply pw_below_drewN | apply below_drew1 | refine below_set ?_ GE293.out) | exact HB.out)⟩⟩
    case round =>
      clear H'
      try clear p2
      try clear c4
      try clear p6
      try clear c7
      try clear c7b0
      try clear c7b1
      try clear c8
      try clear c8b0
      try clear c8b1
      try clear hcz13_0
      try clear hcz13_1
      try clear hfz13_0
      try clear hfz13_1
      obtain ⟨x6_1, x7_1, rfl, HA, HK1, HO_6, HO_294000, HO_294001, BK293, HB⟩ := hrel
      cases gk with
      | zero => exact absurd HA.out (by simp [damperlaw5_TableHundred.l0])
      | succ k1 =>
        have H := HA.out
        clear HA
        simp only [damperlaw5_TableHundred.l0] at H
        by_cases c17 : x7_1 < (wrap64 ((wrap64 ((ji6) - 549755813888)) + 100))
        · rw [if_pos c17] at H
          have c17b0 : decide (x7_1 < (wrap64 ((wrap64 ((ji6) - 549755813888)) + 100))) = true := decide_eq_true c17
          clear c17
          replace H := Option.bind_eq_some_iff.mp H
          obtain ⟨t297, A180, H⟩ := H
          replace H : (damperlaw5_TableHundred.l1 k1 (wrap64 ((ji6) - 549755813888)) x6_1 x7_1 t297 false 0 t287 t290) = some r := H
          have A18 := Aside0.mk A180
          clear A180
          have H' := Aside0.mk H
          clear H
          have hcz19_0 : wr.cell? ⟨gb293, 0, none⟩ = some (.slice Ao12 t287.length co12) := bc BK293 0
          have hcz19_1 : wr.cell? ⟨gb293, 1, none⟩ = some (.slice Ao14 t290.length co14) := bc BK293 1
          have hfz19_0 := blk_frozen BK293.out 0
          have hfz19_1 := blk_frozen BK293.out 1
          go_wp2_with (first | (go_at_call 14; refine (damperlaw5_within.keep _ _ rfl (by first | decide | assumption | exact wi_ne (by assumption) | exact wi_ne' (by assumption) | omega) _).mono ?_; rintro e w' ⟨rfl, rfl⟩) | (go_at_call 16; (with_reducible refine (table_Pick.calls k1 _ _ t287 _ _ t290 x7_1 t297 _ ?side1 ?side2 ?side3 ?side4 A18.out).mono ?_); (case side1 => repeat (first | exact (Kd.R_reads' HO_294000.out).2.2 | (with_reducible refine Kd.C_alloc ?_ _) | (with_reducible refine Kd.C_drewN ?_ _) | (with_reducible refine Kd.C_drew ?_))); (case side2 => exact (Kd.R_reads' HO_294000.out).2.1); (case side3 => repeat (first | exact (Kd.R_reads' HO_294001.out).2.2 | (with_reducible refine Kd.C_alloc ?_ _) | (with_reducible refine Kd.C_drewN ?_ _) | (with_reducible refine Kd.C_drew ?_))); (case side4 => exact (Kd.R_reads' HO_294001.out).2.1); rintro e w20 ⟨rfl, hb⟩; have n0_ := Aside0.mk (Kd.R_below (by (with_reducible repeat (first | apply Kd.R_alloc | apply Kd.R_drewN | apply Kd.R_drew)); exact HO_6.out) hb); have n1_ := Aside0.mk (Kd.R_below (by (with_reducible repeat (first | apply Kd.R_alloc | apply Kd.R_drewN | apply Kd.R_drew)); exact HO_294000.out) hb); have n2_ := Aside0.mk (Kd.R_below (by (with_reducible repeat (first | apply Kd.R_alloc | apply Kd.R_drewN | apply Kd.R_drew)); exact HO_294001.out) hb); have n3_ := Aside0.mk (blk_below (g := gb293) (pk BK293) hb); have n4_ := Aside0.mk (below_step (by repeat (first | (with_reducible first | exact HB.out | apply below_alloc | apply pw_below_drewN | apply below_drew1 | refine below_set ?_ GE293.out) | exact HB.out)) hb); clear HO_6; clear HO_294000; clear HO_294001; clear BK293; clear HB; have HO_6 := n0_; have HO_294000 := n1_; have HO_294001 := n2_; have BK293 := n3_; have HB := n4_; clear n0_ n1_ n2_ n3_ n4_; (try clear hb); (try clear hb2); (try clear hk); (try clear hi)))
          repeat (go_quiet (first | (go_at_call 14; exact Calls.quiet_of_same (damperlaw5_within.same _ _ rfl (by first | decide | assumption | exact wi_ne (by assumption) | exact wi_ne' (by assumption) | omega) _)) | (go_at_call 16; (with_reducible refine (table_Pick.calls k1 _ _ t287 _ _ t290 x7_1 t297 _ ?side1 ?side2 ?side3 ?side4 A18.out).mono ?_); (case side1 => repeat (first | exact (Kd.R_reads' HO_294000.out).2.2 | (with_reducible refine Kd.C_alloc ?_ _) | (with_reducible refine Kd.C_drewN ?_ _) | (with_reducible refine Kd.C_drew ?_))); (case side2 => exact (Kd.R_reads' HO_294000.out).2.1); (case side3 => repeat (first | exact (Kd.R_reads' HO_294001.out).2.2 | (with_reducible refine Kd.C_alloc ?_ _) | (with_reducible refine Kd.C_drewN ?_ _) | (with_reducible refine Kd.C_drew ?_))); (case side4 => exact (Kd.R_reads' HO_294001.out).2.1); rintro e w20 ⟨rfl, hb⟩; have n0_ := Aside0.mk (Kd.R_below (by (with_reducible repeat (first | apply Kd.R_alloc | apply Kd.R_drewN | apply Kd.R_drew)); exact HO_6.out) hb); have n1_ := Aside0.mk (Kd.R_below (by (with_reducible repeat (first | apply Kd.R_alloc | apply Kd.R_drewN | apply Kd.R_drew)); exact HO_294000.out) hb); have n2_ := Aside0.mk (Kd.R_below (by (with_reducible repeat (first | apply Kd.R_alloc | apply Kd.R_drewN | apply Kd.R_drew)); exact HO_294001.out) hb); have n3_ := Aside0.mk (blk_below (g := gb293) (pk BK293) hb); have n4_ := Aside0.mk (below_step (by repeat (first | (with_reducible first | exact HB.out | apply below_alloc | apply pw_below_drewN | apply below_drew1 | refine below_set ?_ GE293.out) | exact HB.out)) hb); clear HO_6; clear HO_294000; clear HO_294001; clear BK293; clear HB; have HO_6 := n0_; have HO_294000 := n1_; have HO_294001 := n2_; have BK293 := n3_; have HB := n4_; clear n0_ n1_ n2_ n3_ n4_; (try clear hb); (try clear hb2); (try clear hk); (try clear hi))); try go_wp2_with (first | (go_at_call 14; refine (damperlaw5_within.keep _ _ rfl (by first | decide | assumption | exact wi_ne (by assumption) | exact wi_ne' (by assumption) | omega) _).mono ?_; rintro e w' ⟨rfl, rfl⟩) | (go_at_call 16; (with_reducible refine (table_Pick.calls k1 _ _ t287 _ _ t290 x7_1 t297 _ ?side1 ?side2 ?side3 ?side4 A18.out).mono ?_); (case side1 => repeat (first | exact (Kd.R_reads' HO_294000.out).2.2 | (with_reducible refine Kd.C_alloc ?_ _) | (with_reducible refine Kd.C_drewN ?_ _) | (with_reducible refine Kd.C_drew ?_))); (case side2 => exact (Kd.R_reads' HO_294000.out).2.1); (case side3 => repeat (first | exact (Kd.R_reads' HO_294001.out).2.2 | (with_reducible refine Kd.C_alloc ?_ _) | (with_reducible refine Kd.C_drewN ?_ _) | (with_reducible refine Kd.C_drew ?_))); (case side4 => exact (Kd.R_reads' HO_294001.out).2.1); rintro e w20 ⟨rfl, hb⟩; have n0_ := Aside0.mk (Kd.R_below (by (with_reducible repeat (first | apply Kd.R_alloc | apply Kd.R_drewN | apply Kd.R_drew)); exact HO_6.out) hb); have n1_ := Aside0.mk (Kd.R_below (by (with_reducible repeat (first | apply Kd.R_alloc | apply Kd.R_drewN | apply Kd.R_drew)); exact HO_294000.out) hb); have n2_ := Aside0.mk (Kd.R_below (by (with_reducible repeat (first | apply Kd.R_alloc | apply Kd.R_drewN | apply Kd.R_drew)); exact HO_294001.out) hb); have n3_ := Aside0.mk (blk_below (g := gb293) (pk BK293) hb); have n4_ := Aside0.mk (below_step (by repeat (first | (with_reducible first | exact HB.out | apply below_alloc | apply pw_below_drewN | apply below_drew1 | refine below_set ?_ GE293.out) | exact HB.out)) hb); clear HO_6; clear HO_294000; clear HO_294001; clear BK293; clear HB; have HO_6 := n0_; have HO_294000 := n1_; have HO_294001 := n2_; have BK293 := n3_; have HB := n4_; clear n0_ n1_ n2_ n3_ n4_; (try clear hb); (try clear hb2); (try clear hk); (try clear hi))))
          go_loopg [9, 10] k1 (fun kq v9 v10 w' => ∃ (x6_2 : List Int) (x9_2 : Bool) (x10_2 : Int), v9 = .bool x9_2 ∧ v10 = .int .i64 x10_2 ∧ Aside0 (damperlaw5_TableHundred.l1 kq (wrap64 ((ji6) - 549755813888)) x6_2 x7_1 t297 x9_2 x10_2 t287 t290 = some r) ∧ Aside0 (kq ≤ k1) ∧ Aside0 (Kd.R (Kd.int .i64) 3 w' w.heap.size (fun _ => True) v295 x6_2) ∧ Aside0 (Kd.R k32 32 w' w.heap.size (fun _ => True) (.slice Ao12 t287.length co12) t287) ∧ Aside0 (Kd.R k35 35 w' w.heap.size (fun _ => True) (.slice Ao14 t290.length co14) t290) ∧ Aside0 (w'.heap[gb293]? = some (.cells #[(.slice Ao12 t287.length co12), (.slice Ao14 t290.length co14)] 25 (0, 0))) ∧ Aside0 (Below w.heap.size w w'))
          case atStart => exact ⟨(x6_1), (false), (0), (by first | rfl | (simp; done) | (simp [*]; done)), (by first | rfl | (simp; done) | (simp [*]; done)), H', ⟨Nat.le_refl _⟩, ⟨by (with_reducible repeat (first | apply Kd.R_alloc | apply Kd.R_drewN | apply Kd.R_drew)); exact HO_6.out⟩, ⟨by (with_reducible repeat (first | apply Kd.R_alloc | apply Kd.R_drewN | apply Kd.R_drew)); exact HO_294000.out⟩, ⟨by (with_reducible repeat (first | apply Kd.R_alloc | apply Kd.R_drewN | apply Kd.R_drew)); exact HO_294001.out⟩, ⟨by (with_reducible repeat (first | refine blk_drewN ?_ _ | refine blk_drew ?_ | refine blk_alloc ?_ _)); exact BK293.out⟩, ⟨by repeat (first | (with_reducible first | exact HB.out | apply below_alloc | apply pw_below_drewN | apply below_drew1 | refine below_set ?_ GE293.out) | exact HB.out)⟩⟩
          case round =>
            clear H'
            try clear c1
            try clear p2
            try clear c4
            try clear p6
            try clear c7
            try clear c7b0
            try clear c7b1
            try clear c8
            try clear c8b0
            try clear c8b1
            try clear c17
            try clear c17b0
            try clear hcz13_0
            try clear hcz13_1
            try clear hcz19_0
            try clear hcz19_1
            try clear hfz13_0
            try clear hfz13_1
            try clear hfz19_0
            try clear hfz19_1
            try clear p2
            try clear p6
            obtain ⟨x6_2, x9_2, x10_2, rfl, rfl, HA, HK2, HO_6, HO_294000, HO_294001, BK293, HB⟩ := hrel
            cases gk with
            | zero => exact absurd HA.out (by simp [damperlaw5_TableHundred.l1])
            | succ k2 =>
              have H := HA.out
              clear HA
              simp only [damperlaw5_TableHundred.l1] at H
              by_cases c21 : x10_2 < (t287.length : Int)
              · rw [if_pos c21] at H
                have c21b0 : decide (x10_2 < (t287.length : Int)) = true := decide_eq_true c21
                clear c21
                by_cases c22 : 0 ≤ x10_2
                rotate_left
                · rw [if_neg c22] at H
                  exact absurd H (by simp)
                rw [if_pos c22] at H
                have c22b0 : decide (0 ≤ x10_2) = true := decide_eq_true c22
                clear c22
                by_cases c23 : ((rd_T32 t287 x10_2).f0).toList = t297.toList
                · rw [if_pos c23] at H
                  have c23b0 : (((rd_T32 t287 x10_2).f0).toList == t297.toList) = true := beq_iff_eq.mpr c23
                  have c23b1 : (((rd_T32 t287 x10_2).f0).toList != t297.toList) = false := bne_eq_false_iff_eq.mpr c23
                  clear c23
                  by_cases c24 : x10_2 < (x6_2.length : Int)
                  rotate_left
                  · rw [if_neg c24] at H
                    exact absurd H (by simp)
                  rw [if_pos c24] at H
                  have c24b0 : decide (x10_2 < (x6_2.length : Int)) = true := decide_eq_true c24
                  clear c24
                  obtain ⟨y300, hy300⟩ : ∃ y_ : List Int, y_ = (x6_2.set (x10_2 : Int).toNat (wrap64 ((rd x6_2 x10_2) + 1))) := ⟨_, rfl⟩
                  replace H : (damperlaw5_TableHundred.l1 k2 (wrap64 ((ji6) - 549755813888)) y300 x7_1 t297 true (wrap64 (x10_2 + 1)) t287 t290) = some r := by first | (rw [hy300]; with_reducible exact H) | (have H2_ := (Option.bind_some _ _).symm.trans H; rw [hy300]; with_reducible exact H2_) | (have H2_ := (Option.bind_some _ _).symm.trans H; with_reducible exact H2_) | with_reducible exact H | (rw [hy300]; exact H) | exact H
                  have Ny300 := Aside0.mk hy300
                  clear hy300
                  have H' := Aside0.mk H
                  clear H
                  have hcz26_0 : wr.cell? ⟨gb293, 0, none⟩ = some (.slice Ao12 t287.length co12) := bc BK293 0
                  have hcz26_1 : wr.cell? ⟨gb293, 1, none⟩ = some (.slice Ao14 t290.length co14) := bc BK293 1
                  have hfz26_0 := blk_frozen BK293.out 0
                  have hfz26_1 := blk_frozen BK293.out 1
                  have p298 : 0 ≤ (x10_2 : Int) := of_decide_eq_true (by first | (with_reducible assumption) | assumption)
                  have q298 : x10_2 < (t287.length : Int) := of_decide_eq_true (by first | (with_reducible assumption) | assumption)
                  obtain ⟨ad298, e298, hx298_0, hx298_1⟩ := at_T32 (Kd.R_reads' HO_294000.out).2.2 x10_2 p298 q298
                  cases e298
                  replace p298 := eq_true p298
                  replace q298 := eq_true q298
                  obtain ⟨Ao27, co27, eo27⟩ := Kd.R_slice HO_6.out
                  subst eo27
                  have p299 : 0 ≤ (x10_2 : Int) := of_decide_eq_true (by first | (with_reducible assumption) | assumption)
                  have q299 : x10_2 < (x6_2.length : Int) := of_decide_eq_true (by first | (with_reducible assumption) | assumption)
                  obtain ⟨ad299, e299, hx299_0⟩ := Kd.at_int (Kd.R_reads' HO_6.out).2.2 x10_2 p299 q299
                  cases e299
                  replace p299 := eq_true p299
                  replace q299 := eq_true q299
                  have p25 : 0 ≤ (x10_2 : Int) := of_decide_eq_true (by first | (with_reducible assumption) | assumption)
                  have q25 : (x10_2 : Int) < ((x6_2.length : Int) : Int) := of_decide_eq_true (by first | (with_reducible assumption) | assumption)
                  obtain ⟨go25, co25, eo25, gb25, gl25, cl25, HG25⟩ := Kd.R_form HO_6.out (by omega)
                  (first | cases eo25 | (injection eo25 with ea_ en_ ec_; (first | subst ea_ | (injection ea_ with ea_; subst ea_)); subst ec_; clear en_))
                  have GB25 := Aside0.mk gb25
                  have GG25 := Aside0.mk HG25
                  clear gb25 gl25 HG25
                  (first | simp only [add_plain] at hx299_0 | skip)
                  obtain ⟨hx25_0, hf25_0⟩ := Kd.R_celln 0 HO_6.out (x10_2 : Int) p25 q25
                  replace p25 := eq_true p25
                  replace q25 := eq_true q25
                  have HP28 := Kd.R_putg HO_6.out (x10_2 : Int) (wrap64 ((rd x6_2 x10_2) + 1))
                  go_wp2_with (first | (go_at_call 14; refine (damperlaw5_within.keep _ _ rfl (by first | decide | assumption | exact wi_ne (by assumption) | exact wi_ne' (by assumption) | omega) _).mono ?_; rintro e w' ⟨rfl, rfl⟩) | ((with_reducible refine gate_store (t := 3) (p := 53) rfl ?_); (try simp only [World.drewN_drewN]); (try (rw [drewN_self wr]; generalize hq_ : World.drewN wr _ = wr; have n0_ := Aside0.mk (Kd.R_at hq_ HO_6.out); have n1_ := Aside0.mk (Kd.R_at hq_ HO_294000.out); have n2_ := Aside0.mk (Kd.R_at hq_ HO_294001.out); have n3_ := Aside0.mk (blk_at hq_ BK293.out); have n4_ := Aside0.mk (below_at hq_ HB.out); clear hq_ HO_6 HO_294000 HO_294001 BK293 HB; have HO_6 := n0_; have HO_294000 := n1_; have HO_294001 := n2_; have BK293 := n3_; have HB := n4_; clear n0_ n1_ n2_ n3_ n4_; (try (have HP28 := Kd.R_putg HO_6.out (x10_2 : Int) (wrap64 ((rd x6_2 x10_2) + 1)))))); refine store_event (t := 3) (p := 53) (v := ?vo_w29) (w1 := (wr.setCell ⟨go25, (x10_2 : Int).toNat, none⟩ (.int .i64 (wrap64 ((rd x6_2 x10_2) + 1))))) ?hg ?ho ?hn ?hr ?_; (case ho => rfl); (case hg => rfl); (case hn => rfl); (case hr => first | (go_simp; done) | (go_simp; rfl)); intro w29 hw; have hg : wr.grownBy w29 (some go25) := (by rw [hw]; exact HP28.2); have hp_ : Kd.R (Kd.int .i64) 3 w29 w.heap.size (fun _ => True) (.slice (some ⟨go25, 0, none⟩) x6_2.length co27) y300 := (by rw [hw, Ny300.out]; exact HP28.1); clear HP28; have n0_ := Aside0.mk (hp_); have n1_ := Aside0.mk (Kd.R_over' (v := (.slice (some ⟨go25, 0, none⟩) x6_2.length co27)) (by (with_reducible repeat (first | apply Kd.R_alloc | apply Kd.R_drewN | apply Kd.R_drew)); exact HO_294000.out) (Kd.R_typed HO_6.out) (by decide) hg); have n2_ := Aside0.mk (Kd.R_over' (v := (.slice (some ⟨go25, 0, none⟩) x6_2.length co27)) (by (with_reducible repeat (first | apply Kd.R_alloc | apply Kd.R_drewN | apply Kd.R_drew)); exact HO_294001.out) (Kd.R_typed HO_6.out) (by decide) hg); have n3_ := Aside0.mk (blk_grown (g := gb293) (pk BK293) hg (Kd.R_ne HO_6.out BK293.out (by decide))); have n4_ := Aside0.mk ((by rw [hw]; exact below_set (HB.out) GB25.out : Below w.heap.size w w29)); clear HO_6; clear HO_294000; clear HO_294001; clear BK293; clear HB; have HO_6 := n0_; have HO_294000 := n1_; have HO_294001 := n2_; have BK293 := n3_; have HB := n4_; clear n0_ n1_ n2_ n3_ n4_; clear hg hw hp_))
                  repeat (go_quiet (first | (go_at_call 14; exact Calls.quiet_of_same (damperlaw5_within.same _ _ rfl (by first | decide | assumption | exact wi_ne (by assumption) | exact wi_ne' (by assumption) | omega) _)) | ((with_reducible refine gate_store (t := 3) (p := 53) rfl ?_); (try simp only [World.drewN_drewN]); (try (rw [drewN_self wr]; generalize hq_ : World.drewN wr _ = wr; have n0_ := Aside0.mk (Kd.R_at hq_ HO_6.out); have n1_ := Aside0.mk (Kd.R_at hq_ HO_294000.out); have n2_ := Aside0.mk (Kd.R_at hq_ HO_294001.out); have n3_ := Aside0.mk (blk_at hq_ BK293.out); have n4_ := Aside0.mk (below_at hq_ HB.out); clear hq_ HO_6 HO_294000 HO_294001 BK293 HB; have HO_6 := n0_; have HO_294000 := n1_; have HO_294001 := n2_; have BK293 := n3_; have HB := n4_; clear n0_ n1_ n2_ n3_ n4_; (try (have HP28 := Kd.R_putg HO_6.out (x10_2 : Int) (wrap64 ((rd x6_2 x10_2) + 1)))))); refine store_event (t := 3) (p := 53) (v := ?vo_w29) (w1 := (wr.setCell ⟨go25, (x10_2 : Int).toNat, none⟩ (.int .i64 (wrap64 ((rd x6_2 x10_2) + 1))))) ?hg ?ho ?hn ?hr ?_; (case ho => rfl); (case hg => rfl); (case hn => rfl); (case hr => first | (go_simp; done) | (go_simp; rfl)); intro w29 hw; have hg : wr.grownBy w29 (some go25) := (by rw [hw]; exact HP28.2); have hp_ : Kd.R (Kd.int .i64) 3 w29 w.heap.size (fun _ => True) (.slice (some ⟨go25, 0, none⟩) x6_2.length co27) y300 := (by rw [hw, Ny300.out]; exact HP28.1); clear HP28; have n0_ := Aside0.mk (hp_); have n1_ := Aside0.mk (Kd.R_over' (v := (.slice (some ⟨go25, 0, none⟩) x6_2.length co27)) (by (with_reducible repeat (first | apply Kd.R_alloc | apply Kd.R_drewN | apply Kd.R_drew)); exact HO_294000.out) (Kd.R_typed HO_6.out) (by decide) hg); have n2_ := Aside0.mk (Kd.R_over' (v := (.slice (some ⟨go25, 0, none⟩) x6_2.length co27)) (by (with_reducible repeat (first | apply Kd.R_alloc | apply Kd.R_drewN | apply Kd.R_drew)); exact HO_294001.out) (Kd.R_typed HO_6.out) (by decide) hg); have n3_ := Aside0.mk (blk_grown (g := gb293) (pk BK293) hg (Kd.R_ne HO_6.out BK293.out (by decide))); have n4_ := Aside0.mk ((by rw [hw]; exact below_set (HB.out) GB25.out : Below w.heap.size w w29)); clear HO_6; clear HO_294000; clear HO_294001; clear BK293; clear HB; have HO_6 := n0_; have HO_294000 := n1_; have HO_294001 := n2_; have BK293 := n3_; have HB := n4_; clear n0_ n1_ n2_ n3_ n4_; clear hg hw hp_)); try go_wp2_with (first | (go_at_call 14; refine (damperlaw5_within.keep _ _ rfl (by first | decide | assumption | exact wi_ne (by assumption) | exact wi_ne' (by assumption) | omega) _).mono ?_; rintro e w' ⟨rfl, rfl⟩) | ((with_reducible refine gate_store (t := 3) (p := 53) rfl ?_); (try simp only [World.drewN_drewN]); (try (rw [drewN_self wr]; generalize hq_ : World.drewN wr _ = wr; have n0_ := Aside0.mk (Kd.R_at hq_ HO_6.out); have n1_ := Aside0.mk (Kd.R_at hq_ HO_294000.out); have n2_ := Aside0.mk (Kd.R_at hq_ HO_294001.out); have n3_ := Aside0.mk (blk_at hq_ BK293.out); have n4_ := Aside0.mk (below_at hq_ HB.out); clear hq_ HO_6 HO_294000 HO_294001 BK293 HB; have HO_6 := n0_; have HO_294000 := n1_; have HO_294001 := n2_; have BK293 := n3_; have HB := n4_; clear n0_ n1_ n2_ n3_ n4_; (try (have HP28 := Kd.R_putg HO_6.out (x10_2 : Int) (wrap64 ((rd x6_2 x10_2) + 1)))))); refine store_event (t := 3) (p := 53) (v := ?vo_w29) (w1 := (wr.setCell ⟨go25, (x10_2 : Int).toNat, none⟩ (.int .i64 (wrap64 ((rd x6_2 x10_2) + 1))))) ?hg ?ho ?hn ?hr ?_; (case ho => rfl); (case hg => rfl); (case hn => rfl); (case hr => first | (go_simp; done) | (go_simp; rfl)); intro w29 hw; have hg : wr.grownBy w29 (some go25) := (by rw [hw]; exact HP28.2); have hp_ : Kd.R (Kd.int .i64) 3 w29 w.heap.size (fun _ => True) (.slice (some ⟨go25, 0, none⟩) x6_2.length co27) y300 := (by rw [hw, Ny300.out]; exact HP28.1); clear HP28; have n0_ := Aside0.mk (hp_); have n1_ := Aside0.mk (Kd.R_over' (v := (.slice (some ⟨go25, 0, none⟩) x6_2.length co27)) (by (with_reducible repeat (first | apply Kd.R_alloc | apply Kd.R_drewN | apply Kd.R_drew)); exact HO_294000.out) (Kd.R_typed HO_6.out) (by decide) hg); have n2_ := Aside0.mk (Kd.R_over' (v := (.slice (some ⟨go25, 0, none⟩) x6_2.length co27)) (by (with_reducible repeat (first | apply Kd.R_alloc | apply Kd.R_drewN | apply Kd.R_drew)); exact HO_294001.out) (Kd.R_typed HO_6.out) (by decide) hg); have n3_ := Aside0.mk (blk_grown (g := gb293) (pk BK293) hg (Kd.R_ne HO_6.out BK293.out (by decide))); have n4_ := Aside0.mk ((by rw [hw]; exact below_set (HB.out) GB25.out : Below w.heap.size w w29)); clear HO_6; clear HO_294000; clear HO_294001; clear BK293; clear HB; have HO_6 := n0_; have HO_294000 := n1_; have HO_294001 := n2_; have BK293 := n3_; have HB := n4_; clear n0_ n1_ n2_ n3_ n4_; clear hg hw hp_)))
                  go_roundg k2
                  case measure => have := HK1.out; have := HK2.out; omega
                  case rel => exact ⟨(y300), (true), (wrap64 (x10_2 + 1)), (by first | rfl | (simp; done) | (simp [*]; done)), (by first | rfl | (simp; done) | (simp [*]; done)), H', ⟨by have := HK1.out; have := HK2.out; omega⟩, ⟨by (with_reducible repeat (first | apply Kd.R_alloc | apply Kd.R_drewN | apply Kd.R_drew)); exact HO_6.out⟩, ⟨by (with_reducible repeat (first | apply Kd.R_alloc | apply Kd.R_drewN | apply Kd.R_drew)); exact HO_294000.out⟩, ⟨by (with_reducible repeat (first | apply Kd.R_alloc | apply Kd.R_drewN | apply Kd.R_drew)); exact HO_294001.out⟩, ⟨by (with_reducible repeat (first | refine blk_drewN ?_ _ | refine blk_drew ?_ | refine blk_alloc ?_ _)); exact BK293.out⟩, ⟨by repeat (first | (with_reducible first | exact HB.out | apply below_alloc | apply pw_below_drewN | apply below_drew1 | refine below_set ?_ GE293.out) | exact HB.out)⟩⟩
                · rw [if_neg c23] at H
                  have c23b0 : (((rd_T32 t287 x10_2).f0).toList == t297.toList) = false := beq_eq_false_iff_ne.mpr c23
                  have c23b1 : (((rd_T32 t287 x10_2).f0).toList != t297.toList) = true := bne_iff_ne.mpr c23
                  have H' := Aside0.mk H
                  clear H
                  have hcz30_0 : wr.cell? ⟨gb293, 0, none⟩ = some (.slice Ao12 t287.length co12) := bc BK293 0
                  have hcz30_1 : wr.cell? ⟨gb293, 1, none⟩ = some (.slice Ao14 t290.length co14) := bc BK293 1
                  have hfz30_0 := blk_frozen BK293.out 0
                  have hfz30_1 := blk_frozen BK293.out 1
                  have p298 : 0 ≤ (x10_2 : Int) := of_decide_eq_true (by first | (with_reducible assumption) | assumption)
                  have q298 : x10_2 < (t287.length : Int) := of_decide_eq_true (by first | (with_reducible assumption) | assumption)
                  obtain ⟨ad298, e298, hx298_0, hx298_1⟩ := at_T32 (Kd.R_reads' HO_294000.out).2.2 x10_2 p298 q298
                  cases e298
                  replace p298 := eq_true p298
                  replace q298 := eq_true q298
                  go_wp2_with (first | (go_at_call 14; refine (damperlaw5_within.keep _ _ rfl (by first | decide | assumption | exact wi_ne (by assumption) | exact wi_ne' (by assumption) | omega) _).mono ?_; rintro e w' ⟨rfl, rfl⟩))
                  repeat (go_quiet (first | (go_at_call 14; exact Calls.quiet_of_same (damperlaw5_within.same _ _ rfl (by first | decide | assumption | exact wi_ne (by assumption) | exact wi_ne' (by assumption) | omega) _))); try go_wp2)
                  go_roundg k2
                  case measure => have := HK1.out; have := HK2.out; omega
                  case rel => exact ⟨(x6_2), (x9_2), (wrap64 (x10_2 + 1)), (by first | rfl | (simp; done) | (simp [*]; done)), (by first | rfl | (simp; done) | (simp [*]; done)), H', ⟨by have := HK1.out; have := HK2.out; omega⟩, ⟨by (with_reducible repeat (first | apply Kd.R_alloc | apply Kd.R_drewN | apply Kd.R_drew)); exact HO_6.out⟩, ⟨by (with_reducible repeat (first | apply Kd.R_alloc | apply Kd.R_drewN | apply Kd.R_drew)); exact HO_294000.out⟩, ⟨by (with_reducible repeat (first | apply Kd.R_alloc | apply Kd.R_drewN | apply Kd.R_drew)); exact HO_294001.out⟩, ⟨by (with_reducible repeat (first | refine blk_drewN ?_ _ | refine blk_drew ?_ | refine blk_alloc ?_ _)); exact BK293.out⟩, ⟨by repeat (first | (with_reducible first | exact HB.out | apply below_alloc | apply pw_below_drewN | apply below_drew1 | refine below_set ?_ GE293.out) | exact HB.out)⟩⟩
              · rw [if_neg c21] at H
                have c21b0 : decide (x10_2 < (t287.length : Int)) = false := decide_eq_false c21
                clear c21
                by_cases c31 : x9_2 = true
                · subst c31
                  have H1 : (damperlaw5_TableHundred.l0 k2 (wrap64 ((ji6) - 549755813888)) x6_2 (wrap64 (x7_1 + 1)) t287 t290) = some r := by rw [if_pos rfl] at H; exact H
                  clear H
                  have H := H1
                  clear H1
                  have H' := Aside0.mk H
                  clear H
                  have hcz32_0 : wr.cell? ⟨gb293, 0, none⟩ = some (.slice Ao12 t287.length co12) := bc BK293 0
                  have hcz32_1 : wr.cell? ⟨gb293, 1, none⟩ = some (.slice Ao14 t290.length co14) := bc BK293 1
                  have hfz32_0 := blk_frozen BK293.out 0
                  have hfz32_1 := blk_frozen BK293.out 1
                  go_wp2_with (first | (go_at_call 14; refine (damperlaw5_within.keep _ _ rfl (by first | decide | assumption | exact wi_ne (by assumption) | exact wi_ne' (by assumption) | omega) _).mono ?_; rintro e w' ⟨rfl, rfl⟩))
                  repeat (go_quiet (first | (go_at_call 14; exact Calls.quiet_of_same (damperlaw5_within.same _ _ rfl (by first | decide | assumption | exact wi_ne (by assumption) | exact wi_ne' (by assumption) | omega) _))); try go_wp2)
                  go_roundg k2
                  case measure => have := HK1.out; have := HK2.out; omega
                  case rel => exact ⟨(x6_2), (wrap64 (x7_1 + 1)), (by first | rfl | (simp; done) | (simp [*]; done)), H', ⟨by have := HK1.out; have := HK2.out; omega⟩, ⟨by (with_reducible repeat (first | apply Kd.R_alloc | apply Kd.R_drewN | apply Kd.R_drew)); exact HO_6.out⟩, ⟨by (with_reducible repeat (first | apply Kd.R_alloc | apply Kd.R_drewN | apply Kd.R_drew)); exact HO_294000.out⟩, ⟨by (with_reducible repeat (first | apply Kd.R_alloc | apply Kd.R_drewN | apply Kd.R_drew)); exact HO_294001.out⟩, ⟨by (with_reducible repeat (first | refine blk_drewN ?_ _ | refine blk_drew ?_ | refine blk_alloc ?_ _)); exact BK293.out⟩, ⟨by repeat (first | (with_reducible first | exact HB.out | apply below_alloc | apply pw_below_drewN | apply below_drew1 | refine below_set ?_ GE293.out) | exact HB.out)⟩⟩
                · replace c31 := Bool.eq_false_iff.mpr c31
                  subst c31
                  have H1 : (some false) = some r := by rw [if_neg (show ¬ (false = true) by decide)] at H; exact H
                  clear H
                  have H := H1
                  clear H1
                  exact absurd (Option.some.inj H) (by rw [hr0_.out]; decide)
        · rw [if_neg c17] at H
          have c17b0 : decide (x7_1 < (wrap64 ((wrap64 ((ji6) - 549755813888)) + 100))) = false := decide_eq_false c17
          clear c17
          have H' := Aside0.mk H
          clear H
          go_wp2_with (first | (go_at_call 14; refine (damperlaw5_within.keep _ _ rfl (by first | decide | assumption | exact wi_ne (by assumption) | exact wi_ne' (by assumption) | omega) _).mono ?_; rintro e w' ⟨rfl, rfl⟩))
          repeat (go_quiet (first | (go_at_call 14; exact Calls.quiet_of_same (damperlaw5_within.same _ _ rfl (by first | decide | assumption | exact wi_ne (by assumption) | exact wi_ne' (by assumption) | omega) _))); try go_wp2)
          go_loopg [11] k1 (fun kq v11 w' => ∃ (x11_2 : Int), v11 = .int .i64 x11_2 ∧ Aside0 (damperlaw5_TableHundred.l2 kq x6_1 x11_2 t287 t290 = some r) ∧ Aside0 (kq ≤ k1) ∧ Aside0 (Kd.R (Kd.int .i64) 3 w' w.heap.size (fun _ => True) v295 x6_1) ∧ Aside0 (Kd.R k32 32 w' w.heap.size (fun _ => True) (.slice Ao12 t287.length co12) t287) ∧ Aside0 (Kd.R k35 35 w' w.heap.size (fun _ => True) (.slice Ao14 t290.length co14) t290) ∧ Aside0 (w'.heap[gb293]? = some (.cells #[(.slice Ao12 t287.length co12), (.slice Ao14 t290.length co14)] 25 (0, 0))) ∧ Aside0 (Below w.heap.size w w'))
          case atStart => exact ⟨(0), (by first | rfl | (simp; done) | (simp [*]; done)), H', ⟨Nat.le_refl _⟩, ⟨by (with_reducible repeat (first | apply Kd.R_alloc | apply Kd.R_drewN | apply Kd.R_drew)); exact HO_6.out⟩, ⟨by (with_reducible repeat (first | apply Kd.R_alloc | apply Kd.R_drewN | apply Kd.R_drew)); exact HO_294000.out⟩, ⟨by (with_reducible repeat (first | apply Kd.R_alloc | apply Kd.R_drewN | apply Kd.R_drew)); exact HO_294001.out⟩, ⟨by (with_reducible repeat (first | refine blk_drewN ?_ _ | refine blk_drew ?_ | refine blk_alloc ?_ _)); exact BK293.out⟩, ⟨by repeat (first | (with_reducible first | exact HB.out | apply below_alloc | apply pw_below_drewN | apply below_drew1 | refine below_set ?_ GE293.out) | exact HB.out)⟩⟩
          case round =>
            clear H'
            try clear c1
            try clear c2
            try clear p2
            try clear q2
            try clear hx2
            try clear hf2
            try clear c3
            try clear c4
            try clear p6
            try clear c7
            try clear c7b0
            try clear c7b1
            try clear c8
            try clear c8b0
            try clear c8b1
            try clear c17
            try clear c17b0
            try clear c21
            try clear c21b0
            try clear c22
            try clear c22b0
            try clear c23
            try clear c23b0
            try clear c23b1
            try clear c24
            try clear c24b0
            try clear p25
            try clear q25
            try clear hx25
            try clear hf25
            try clear p29
            try clear q29
            try clear hx29
            try clear c31
            try clear hcz13_0
            try clear hcz13_1
            try clear hcz19_0
            try clear hcz19_1
            try clear hcz26_0
            try clear hcz26_1
            try clear hcz30_0
            try clear hcz30_1
            try clear hcz32_0
            try clear hcz32_1
            try clear hfz13_0
            try clear hfz13_1
            try clear hfz19_0
            try clear hfz19_1
            try clear hfz26_0
            try clear hfz26_1
            try clear hfz30_0
            try clear hfz30_1
            try clear hfz32_0
            try clear hfz32_1
            try clear hx25_0
            try clear hx298_0
            try clear hx298_1
            try clear hx299_0
            try clear p2
            try clear p25
            try clear p298
            try clear p299
            try clear p6
            try clear q25
            try clear q298
            try clear q299
            obtain ⟨x11_2, rfl, HA, HK2, HO_6, HO_294000, HO_294001, BK293, HB⟩ := hrel
            cases gk with
            | zero => exact absurd HA.out (by simp [damperlaw5_TableHundred.l2])
            | succ k2 =>
              have H := HA.out
              clear HA
              simp only [damperlaw5_TableHundred.l2] at H
              by_cases c33 : x11_2 < (x6_1.length : Int)
              · rw [if_pos c33] at H
                have c33b0 : decide (x11_2 < (x6_1.length : Int)) = true := decide_eq_true c33
                clear c33
                by_cases c34 : 0 ≤ x11_2
                rotate_left
                · rw [if_neg c34] at H
                  exact absurd H (by simp)
                rw [if_pos c34] at H
                have c34b0 : decide (0 ≤ x11_2) = true := decide_eq_true c34
                clear c34
                by_cases c35 : x11_2 < (t287.length : Int)
                rotate_left
                · rw [if_neg c35] at H
                  exact absurd H (by simp)
                rw [if_pos c35] at H
                have c35b0 : decide (x11_2 < (t287.length : Int)) = true := decide_eq_true c35
                clear c35
                by_cases c36 : (rd x6_1 x11_2) = ((rd_T32 t287 x11_2).f1)
                rotate_left
                · rw [if_neg c36] at H
                  have c36b0 : ((rd x6_1 x11_2) == ((rd_T32 t287 x11_2).f1)) = false := beq_eq_false_iff_ne.mpr c36
                  have c36b1 : ((rd x6_1 x11_2) != ((rd_T32 t287 x11_2).f1)) = true := bne_iff_ne.mpr c36
                  exact absurd (Option.some.inj H) (by rw [hr0_.out]; decide)
                rw [if_pos c36] at H
                have c36b0 : ((rd x6_1 x11_2) == ((rd_T32 t287 x11_2).f1)) = true := beq_iff_eq.mpr c36
                have c36b1 : ((rd x6_1 x11_2) != ((rd_T32 t287 x11_2).f1)) = false := bne_eq_false_iff_eq.mpr c36
                clear c36
                have H' := Aside0.mk H
                clear H
                obtain ⟨Ao37, co37, eo37⟩ := Kd.R_slice HO_6.out
                subst eo37
                have p301 : 0 ≤ (x11_2 : Int) := of_decide_eq_true (by first | (with_reducible assumption) | assumption)
                have q301 : x11_2 < (x6_1.length : Int) := of_decide_eq_true (by first | (with_reducible assumption) | assumption)
                obtain ⟨ad301, e301, hx301_0⟩ := Kd.at_int (Kd.R_reads' HO_6.out).2.2 x11_2 p301 q301
                cases e301
                replace p301 := eq_true p301
                replace q301 := eq_true q301
                have hcz38_0 : wr.cell? ⟨gb293, 0, none⟩ = some (.slice Ao12 t287.length co12) := bc BK293 0
                have hcz38_1 : wr.cell? ⟨gb293, 1, none⟩ = some (.slice Ao14 t290.length co14) := bc BK293 1
                have hfz38_0 := blk_frozen BK293.out 0
                have hfz38_1 := blk_frozen BK293.out 1
                have p302 : 0 ≤ (x11_2 : Int) := of_decide_eq_true (by first | (with_reducible assumption) | assumption)
                have q302 : x11_2 < (t287.length : Int) := of_decide_eq_true (by first | (with_reducible assumption) | assumption)
                obtain ⟨ad302, e302, hx302_0, hx302_1⟩ := at_T32 (Kd.R_reads' HO_294000.out).2.2 x11_2 p302 q302
                cases e302
                replace p302 := eq_true p302
                replace q302 := eq_true q302
                go_wp2_with (first | (go_at_call 14; refine (damperlaw5_within.keep _ _ rfl (by first | decide | assumption | exact wi_ne (by assumption) | exact wi_ne' (by assumption) | omega) _).mono ?_; rintro e w' ⟨rfl, rfl⟩))
                repeat (go_quiet (first | (go_at_call 14; exact Calls.quiet_of_same (damperlaw5_within.same _ _ rfl (by first | decide | assumption | exact wi_ne (by assumption) | exact wi_ne' (by assumption) | omega) _))); try go_wp2)
                go_roundg k2
                case measure => have := HK1.out; have := HK2.out; omega
                case rel => exact ⟨(wrap64 (x11_2 + 1)), (by first | rfl | (simp; done) | (simp [*]; done)), H', ⟨by have := HK1.out; have := HK2.out; omega⟩, ⟨by (with_reducible repeat (first | apply Kd.R_alloc | apply Kd.R_drewN | apply Kd.R_drew)); exact HO_6.out⟩, ⟨by (with_reducible repeat (first | apply Kd.R_alloc | apply Kd.R_drewN | apply Kd.R_drew)); exact HO_294000.out⟩, ⟨by (with_reducible repeat (first | apply Kd.R_alloc | apply Kd.R_drewN | apply Kd.R_drew)); exact HO_294001.out⟩, ⟨by (with_reducible repeat (first | refine blk_drewN ?_ _ | refine blk_drew ?_ | refine blk_alloc ?_ _)); exact BK293.out⟩, ⟨by repeat (first | (with_reducible first | exact HB.out | apply below_alloc | apply pw_below_drewN | apply below_drew1 | refine below_set ?_ GE293.out) | exact HB.out)⟩⟩
              · rw [if_neg c33] at H
                have c33b0 : decide (x11_2 < (x6_1.length : Int)) = false := decide_eq_false c33
                clear c33
                obtain rfl := Option.some.inj H
                obtain ⟨Ao39, co39, eo39⟩ := Kd.R_slice HO_6.out
                subst eo39
                go_wp2_with (first | (go_at_call 14; refine (damperlaw5_within.keep _ _ rfl (by first | decide | assumption | exact wi_ne (by assumption) | exact wi_ne' (by assumption) | omega) _).mono ?_; rintro e w' ⟨rfl, rfl⟩))
                repeat (go_quiet (first | (go_at_call 14; exact Calls.quiet_of_same (damperlaw5_within.same _ _ rfl (by first | decide | assumption | exact wi_ne (by assumption) | exact wi_ne' (by assumption) | omega) _))); try go_wp2)
                go_ret
                exact ⟨by first | rfl | (simp [errW_none, errW_some] <;> rfl) | (simp only [← hji6]; first | rfl | (simp [errW_none, errW_some] <;> rfl)) | (simp [*, errW_none, errW_some] <;> rfl), by repeat (first | (with_reducible first | exact HB.out | apply below_alloc | apply pw_below_drewN | apply below_drew1 | refine below_set ?_ GE293.out) | exact HB.out)⟩
  · replace c4 := Bool.eq_false_iff.mpr c4
    subst c4
    have H1 : (some false) = some r := by rw [if_neg (show ¬ (false = true) by decide)] at H; exact H
    clear H
    have H := H1
    clear H1
    exact absurd (Option.some.inj H) (by rw [hr0_.out]; decide)

/-- THE ONE PURE STATEMENT of damperlaw5_TableHundred: yours. -/
def damperlaw5_TableHundred.Pure : Prop := ∀ (l0 : List Int) (a1 : Int), (l0.length ≤ maxLen ∧ ∀ y_ ∈ l0, (Lit.int .i64 y_).wf = true) → ((Lit.int .i64 a1).wf = true) → ∃ k, damperlaw5_TableHundred.f k l0 a1 = some true
theorem damperlaw5_TableHundred.walk (P : damperlaw5_TableHundred.Pure) (A0 : Option Addr) (c0 : Nat) (l0 : List Int) (a1 : Int) (w : World) (hLd_ : LaidW w) (w0 : l0.length ≤ maxLen ∧ ∀ y_ ∈ l0, (Lit.int .i64 y_).wf = true) (w1 : (Lit.int .i64 a1).wf = true) (hr0 : Kd.C (Kd.int .i64) w A0 l0.length l0) (hc0 : l0.length ≤ c0) :
    Calls Tryd.prog 4 #[.slice A0 l0.length c0, .int .i64 a1] w fun e w' => e = .returned (.bool true) ∧ Below w.heap.size w w' := by
  obtain ⟨k, h⟩ := P l0 a1 w0 w1
  refine (damperlaw5_TableHundred.calls k A0 c0 l0 a1 true w ⟨hLd_⟩ hr0 hc0 ⟨rfl⟩ h).mono ?_
  rintro e w' ⟨rfl, hd⟩
  exact ⟨rfl, hd⟩

end Go.Proofs.YtckcimahclpdfaaDoor.Ma
