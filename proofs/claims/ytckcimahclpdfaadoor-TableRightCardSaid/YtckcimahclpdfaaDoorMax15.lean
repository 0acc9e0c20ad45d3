-- Written by a program of this session (wip/tools/myprint.py), in the form of the kit's print. Not trusted: Lean checks it.
import Derived.Test.YtckcimahclpdfaaDoorMax0
namespace Go.Proofs.YtckcimahclpdfaaDoor.Ma
open Go.RowKit Go.Proofs.YtckcimahclpdfaaDoorW.PrintWords Go.Proofs.YtckcimahclpdfaaDoorW.PrintLast Go.Proofs.YtckcimahclpdfaaDoorW.PrintMore
attribute [local go_sem] max2_int min2_int max_two min_two max_three min_three max_four min_four   -- for this text's walks alone
set_option linter.unusedVariables false
set_option linter.unusedSimpArgs false

/-! ### damperlaw1_within: function 34 -/
def damperlaw1_within.f (a0 : Int) (a1 : Int) : Option (Int) := if a1 = 0 then (none) else some (wi a0 a1)
set_option maxHeartbeats 8000000 in
set_option maxRecDepth 100000 in
theorem damperlaw1_within.same (a0 : Int) (a1 : Int) {r : Int} (hr : wi a0 a1 = r) (c3 : a1 ≠ 0) (w : World) :
    Calls Tryd.prog 34 #[.int .i64 a0, .int .i64 a1] w fun e w' => e = .returned (.int .i64 r) ∧ w' = w := by
  subst hr
  have c3b0 : (a1 == 0) = false := beq_eq_false_iff_ne.mpr c3
  have c3b1 : (a1 != 0) = true := bne_iff_ne.mpr c3
  by_cases c4 : (Int.tmod a0 a1) < 0
  · have hw : wi a0 a1 = wrap64 (Int.tmod a0 a1 + a1) := by unfold wi; rw [if_pos c4]
    rw [hw]; clear hw
    have c4b0 : decide ((Int.tmod a0 a1) < 0) = true := decide_eq_true c4
    clear c4
    go_enter Tryd.func34, Tryd.ntmps34
    go_wp2
    go_ret
    exact ⟨by first | rfl | (simp; done) | (simp [*]; done), rfl⟩
  · have hw : wi a0 a1 = Int.tmod a0 a1 := by unfold wi; rw [if_neg c4]
    rw [hw]; clear hw
    have c4b0 : decide ((Int.tmod a0 a1) < 0) = false := decide_eq_false c4
    clear c4
    go_enter Tryd.func34, Tryd.ntmps34
    go_wp2
    go_ret
    exact ⟨by first | rfl | (simp; done) | (simp [*]; done), rfl⟩
theorem damperlaw1_within.keep (a0 : Int) (a1 : Int) {r : Int} (hr : wi a0 a1 = r) (c3 : a1 ≠ 0) (w : World) :
    Calls Tryd.prog 34 #[.int .i64 a0, .int .i64 a1] w fun e w' => e = .returned (.int .i64 r) ∧ w = w' :=
  (damperlaw1_within.same a0 a1 hr c3 w).mono fun _ _ h => ⟨h.1, h.2.symm⟩
theorem damperlaw1_within.calls (a0 : Int) (a1 : Int) (r : Int) (w : World) (h : damperlaw1_within.f a0 a1 = some r) :
    Calls Tryd.prog 34 #[.int .i64 a0, .int .i64 a1] w fun e w' => e = .returned (.int .i64 r) ∧ Drawn0 w w' := by
  unfold damperlaw1_within.f at h
  by_cases c3 : a1 = 0
  · rw [if_pos c3] at h; cases h
  rw [if_neg c3] at h
  refine (damperlaw1_within.same a0 a1 (Option.some.inj h) c3 w).mono ?_
  rintro e w' ⟨rfl, rfl⟩
  exact ⟨rfl, Drawn0.refl _⟩

/-! ### damperlaw1_Text: function 15 -/
def damperlaw1_Text.l0 : Nat → List Int → ByteArray → Int → Option (ByteArray)
  | 0, _, _, _ => none
  | k + 1, x0, x3, x4 => if x4 < (x0.length : Int) then (if x4 < 24 then ((some (([(⟨#[97]⟩ : ByteArray), (⟨#[122]⟩ : ByteArray), (⟨#[48]⟩ : ByteArray), (⟨#[57]⟩ : ByteArray), (⟨#[45]⟩ : ByteArray), (⟨#[98]⟩ : ByteArray), (⟨#[49]⟩ : ByteArray), (⟨#[65]⟩ : ByteArray), (⟨#[95]⟩ : ByteArray), (⟨#[195, 169]⟩ : ByteArray), (⟨#[97]⟩ : ByteArray), (⟨#[55]⟩ : ByteArray)] : List ByteArray) : List ByteArray)).bind fun y240 => (if 0 ≤ x4 then (if 0 ≤ (wi (rd x0 x4) 12) then (if (wi (rd x0 x4) 12) < (y240.length : Int) then (if x3.size + (rdOf ByteArray.empty y240 (wi (rd x0 x4) 12)).size ≤ 9223372036854775807 then (damperlaw1_Text.l0 k x0 (x3 ++ (rdOf ByteArray.empty y240 (wi (rd x0 x4) 12))) (wrap64 (x4 + 1))) else (none)) else (none)) else (none)) else (none))) else (some x3)) else (some x3)
def damperlaw1_Text.f (k : Nat) (l0 : List Int) : Option (ByteArray) := damperlaw1_Text.l0 k l0 (⟨#[]⟩ : ByteArray) 0
theorem damperlaw1_Text.mono_l : ∀ k, (∀ y0 y1 y2, LeO (damperlaw1_Text.l0 k y0 y1 y2) (damperlaw1_Text.l0 (k + 1) y0 y1 y2))
  | 0 => fun _ _ _ r h => by simp [damperlaw1_Text.l0] at h
  | k + 1 => by
    have ih0 := damperlaw1_Text.mono_l k
    · intro y0 y1 y2
      unfold damperlaw1_Text.l0
      repeat' first
      | (with_reducible exact ih0 _ _ _)
      | (with_reducible exact LeO.refl _)
      | (with_reducible exact LeO.none _)
      | (with_reducible refine LeO.ite ?_ ?_)
      | (with_reducible refine LeO.bind ?_ (fun _ => ?_))
      | exact ih0 _ _ _
      | exact LeO.none _
      | refine LeO.ite ?_ ?_
      | refine LeO.bind ?_ (fun _ => ?_)
theorem damperlaw1_Text.mono : ∀ a0 k, LeO (damperlaw1_Text.f k a0) (damperlaw1_Text.f (k + 1) a0) := by
  intro a0 k
  have ih0 := damperlaw1_Text.mono_l k
  unfold damperlaw1_Text.f
  repeat' first
      | (with_reducible exact ih0 _ _ _)
      | (with_reducible exact LeO.refl _)
      | (with_reducible exact LeO.none _)
      | (with_reducible refine LeO.ite ?_ ?_)
      | (with_reducible refine LeO.bind ?_ (fun _ => ?_))
      | exact ih0 _ _ _
      | exact LeO.none _
      | refine LeO.ite ?_ ?_
      | refine LeO.bind ?_ (fun _ => ?_)
set_option maxHeartbeats 8000000 in
set_option maxRecDepth 100000 in
theorem damperlaw1_Text.calls (k : Nat) (A0 : Option Addr) (c0 : Nat) (l0 : List Int) (r : ByteArray) (w : World) (hr0 : Kd.C (Kd.int .i64) w A0 l0.length l0) (hc0 : l0.length ≤ c0) (h : damperlaw1_Text.f k l0 = some r) :
    Calls Tryd.prog 15 #[.slice A0 l0.length c0] w fun e w' => e = .returned (.string r) ∧ Below w.heap.size w w' := by
  have HR0 := Aside0.mk hr0
  have HC0 := Aside0.mk hc0
  clear hr0 hc0
  have HB := Aside0.mk (Below.refl w.heap.size w)
  have H : (damperlaw1_Text.l0 k l0 (⟨#[]⟩ : ByteArray) 0) = some r := h
  clear h
  have H' := Aside0.mk H
  clear H
  go_enter Tryd.func15, Tryd.ntmps15
  go_wp2_with (first | (go_at_call 34; refine (damperlaw1_within.keep _ _ rfl (by first | decide | assumption | exact wi_ne (by assumption) | exact wi_ne' (by assumption) | omega) _).mono ?_; rintro e w' ⟨rfl, rfl⟩))
  go_loopg [3, 4] k (fun kq v3 v4 w' => ∃ (x3_1 : ByteArray) (x4_1 : Int), v3 = .string x3_1 ∧ v4 = .int .i64 x4_1 ∧ Aside0 (damperlaw1_Text.l0 kq l0 x3_1 x4_1 = some r) ∧ Aside0 (kq ≤ k) ∧ Aside0 (Below w.heap.size w w'))
  case atStart => exact ⟨((⟨#[]⟩ : ByteArray)), (0), (by first | rfl | (simp; done) | (simp [*]; done)), (by first | rfl | (simp; done) | (simp [*]; done)), H', ⟨Nat.le_refl _⟩, ⟨by repeat (first | (with_reducible first | exact HB.out | apply below_alloc | apply pw_below_drewN | apply below_drew1) | exact HB.out)⟩⟩
  case round =>
    clear H'
    try clear c1
    obtain ⟨x3_1, x4_1, rfl, rfl, HA, HK1, HB⟩ := hrel
    cases gk with
    | zero => exact absurd HA.out (by simp [damperlaw1_Text.l0])
    | succ k1 =>
      have H := HA.out
      clear HA
      simp only [damperlaw1_Text.l0] at H
      by_cases c2 : x4_1 < (l0.length : Int)
      · rw [if_pos c2] at H
        have c2b0 : decide (x4_1 < (l0.length : Int)) = true := decide_eq_true c2
        clear c2
        by_cases c3 : x4_1 < 24
        · rw [if_pos c3] at H
          have c3b0 : decide (x4_1 < 24) = true := decide_eq_true c3
          clear c3
          obtain ⟨y240, hy240⟩ : ∃ y_ : List ByteArray, y_ = (([(⟨#[97]⟩ : ByteArray), (⟨#[122]⟩ : ByteArray), (⟨#[48]⟩ : ByteArray), (⟨#[57]⟩ : ByteArray), (⟨#[45]⟩ : ByteArray), (⟨#[98]⟩ : ByteArray), (⟨#[49]⟩ : ByteArray), (⟨#[65]⟩ : ByteArray), (⟨#[95]⟩ : ByteArray), (⟨#[195, 169]⟩ : ByteArray), (⟨#[97]⟩ : ByteArray), (⟨#[55]⟩ : ByteArray)] : List ByteArray)) := ⟨_, rfl⟩
          replace H : (if 0 ≤ x4_1 then (if 0 ≤ (wi (rd l0 x4_1) 12) then (if (wi (rd l0 x4_1) 12) < (y240.length : Int) then (if x3_1.size + (rdOf ByteArray.empty y240 (wi (rd l0 x4_1) 12)).size ≤ 9223372036854775807 then (damperlaw1_Text.l0 k1 l0 (x3_1 ++ (rdOf ByteArray.empty y240 (wi (rd l0 x4_1) 12))) (wrap64 (x4_1 + 1))) else (none)) else (none)) else (none)) else (none)) = some r := by first | (rw [hy240]; with_reducible exact H) | (have H2_ := (Option.bind_some _ _).symm.trans H; rw [hy240]; with_reducible exact H2_) | (have H2_ := (Option.bind_some _ _).symm.trans H; with_reducible exact H2_) | with_reducible exact H | (rw [hy240]; exact H) | exact H
          have Ny240 := Aside0.mk hy240
          clear hy240
          by_cases c4 : 0 ≤ x4_1
          rotate_left
          · rw [if_neg c4] at H
            exact absurd H (by simp)
          rw [if_pos c4] at H
          have c4b0 : decide (0 ≤ x4_1) = true := decide_eq_true c4
          clear c4
          obtain ⟨ji5, hji5⟩ : ∃ j_ : Int, (wi (rd l0 x4_1) 12) = j_ := ⟨_, rfl⟩
          replace H : (if 0 ≤ (ji5) then (if (ji5) < (y240.length : Int) then (if x3_1.size + (rdOf ByteArray.empty y240 (ji5)).size ≤ 9223372036854775807 then (damperlaw1_Text.l0 k1 l0 (x3_1 ++ (rdOf ByteArray.empty y240 (ji5))) (wrap64 (x4_1 + 1))) else (none)) else (none)) else (none)) = some r := by first | (rw [hji5] at H; exact H) | (simp only [hji5] at H ⊢; exact H)
          by_cases c6 : 0 ≤ (ji5)
          rotate_left
          · rw [if_neg c6] at H
            exact absurd H (by simp)
          rw [if_pos c6] at H
          have c6b0 : decide (0 ≤ (ji5)) = true := decide_eq_true c6
          clear c6
          by_cases c7 : (ji5) < (y240.length : Int)
          rotate_left
          · rw [if_neg c7] at H
            exact absurd H (by simp)
          rw [if_pos c7] at H
          have c7b0 : decide ((ji5) < (y240.length : Int)) = true := decide_eq_true c7
          clear c7
          by_cases c8 : x3_1.size + (rdOf ByteArray.empty y240 (ji5)).size ≤ 9223372036854775807
          rotate_left
          · rw [if_neg c8] at H
            exact absurd H (by simp)
          rw [if_pos c8] at H
          have c8b0 := eq_true c8
          have c8b1 : decide (x3_1.size + (rdOf ByteArray.empty y240 (ji5)).size ≤ 9223372036854775807) = true := decide_eq_true c8
          try have c8b2 : (9223372036854775807 < x3_1.size + (rdOf ByteArray.empty y240 (ji5)).size) = False := eq_false (Nat.not_lt.2 c8)
          try (have c8b4 := c8; simp at c8b4; have c8b5 := eq_false (Nat.not_lt.2 c8b4))
          have H' := Aside0.mk H
          clear H
          go_wp2_with (first | (go_at_call 34; refine (damperlaw1_within.keep _ _ rfl (by first | decide | assumption | exact wi_ne (by assumption) | exact wi_ne' (by assumption) | omega) _).mono ?_; rintro e w' ⟨rfl, rfl⟩) | ((with_reducible refine gate_dst (N := 16) rfl ?_); refine Kd.R_lit Kd.string _ 9 ?hg (N := 16) ?hd (xs := ([(⟨#[97]⟩ : ByteArray), (⟨#[122]⟩ : ByteArray), (⟨#[48]⟩ : ByteArray), (⟨#[57]⟩ : ByteArray), (⟨#[45]⟩ : ByteArray), (⟨#[98]⟩ : ByteArray), (⟨#[49]⟩ : ByteArray), (⟨#[65]⟩ : ByteArray), (⟨#[95]⟩ : ByteArray), (⟨#[195, 169]⟩ : ByteArray), (⟨#[97]⟩ : ByteArray), (⟨#[55]⟩ : ByteArray)] : List ByteArray)) (inner := [.string (⟨#[97]⟩ : ByteArray), .string (⟨#[122]⟩ : ByteArray), .string (⟨#[48]⟩ : ByteArray), .string (⟨#[57]⟩ : ByteArray), .string (⟨#[45]⟩ : ByteArray), .string (⟨#[98]⟩ : ByteArray), .string (⟨#[49]⟩ : ByteArray), .string (⟨#[65]⟩ : ByteArray), .string (⟨#[95]⟩ : ByteArray), .string (⟨#[195, 169]⟩ : ByteArray), .string (⟨#[97]⟩ : ByteArray), .string (⟨#[55]⟩ : ByteArray)]) (ok := fun _ => True) (okp := fun _ => True) ?hr ?hp (fun _ hk => hk) trivial (Below.refl _ _) (Nat.le_refl _) (by simp) ?_; (case hd => rfl); (case hg => rfl); (case hr => first | (go_simp; done) | (go_simp; rfl)); (case hp => exact (Reps.one (show Kd.M Kd.string _ _ _ (⟨#[97]⟩ : ByteArray) [.string (⟨#[97]⟩ : ByteArray)] from rfl) (Reps.one (show Kd.M Kd.string _ _ _ (⟨#[122]⟩ : ByteArray) [.string (⟨#[122]⟩ : ByteArray)] from rfl) (Reps.one (show Kd.M Kd.string _ _ _ (⟨#[48]⟩ : ByteArray) [.string (⟨#[48]⟩ : ByteArray)] from rfl) (Reps.one (show Kd.M Kd.string _ _ _ (⟨#[57]⟩ : ByteArray) [.string (⟨#[57]⟩ : ByteArray)] from rfl) (Reps.one (show Kd.M Kd.string _ _ _ (⟨#[45]⟩ : ByteArray) [.string (⟨#[45]⟩ : ByteArray)] from rfl) (Reps.one (show Kd.M Kd.string _ _ _ (⟨#[98]⟩ : ByteArray) [.string (⟨#[98]⟩ : ByteArray)] from rfl) (Reps.one (show Kd.M Kd.string _ _ _ (⟨#[49]⟩ : ByteArray) [.string (⟨#[49]⟩ : ByteArray)] from rfl) (Reps.one (show Kd.M Kd.string _ _ _ (⟨#[65]⟩ : ByteArray) [.string (⟨#[65]⟩ : ByteArray)] from rfl) (Reps.one (show Kd.M Kd.string _ _ _ (⟨#[95]⟩ : ByteArray) [.string (⟨#[95]⟩ : ByteArray)] from rfl) (Reps.one (show Kd.M Kd.string _ _ _ (⟨#[195, 169]⟩ : ByteArray) [.string (⟨#[195, 169]⟩ : ByteArray)] from rfl) (Reps.one (show Kd.M Kd.string _ _ _ (⟨#[97]⟩ : ByteArray) [.string (⟨#[97]⟩ : ByteArray)] from rfl) (Reps.one (show Kd.M Kd.string _ _ _ (⟨#[55]⟩ : ByteArray) [.string (⟨#[55]⟩ : ByteArray)] from rfl) (Reps.none _ _)))))))))))))); intro v241 w9 ho10 hb hg_ hnew_; clear hg_ hnew_; (first | rw [← Ny240.out] at ho10 | (simp only [Int.reduceToNat] at ho10; rw [← Ny240.out] at ho10)); have n0_ := Aside0.mk (Kd.R_lower ho10 (below_size (by repeat (first | (with_reducible first | exact HB.out | apply below_alloc | apply pw_below_drewN | apply below_drew1) | exact HB.out)))); have n1_ := Aside0.mk (below_step (by repeat (first | (with_reducible first | exact HB.out | apply below_alloc | apply pw_below_drewN | apply below_drew1) | exact HB.out)) hb); clear HB; have HO242 := n0_; have HB := n1_; clear n0_ n1_; clear hb ho10; have p243 : 0 ≤ (x4_1 : Int) := of_decide_eq_true (by first | (with_reducible assumption) | assumption); have q243 : x4_1 < (l0.length : Int) := of_decide_eq_true (by first | (with_reducible assumption) | assumption); obtain ⟨ad243, e243, hx243_0⟩ := Kd.at_int HR0.out x4_1 p243 q243; cases e243; replace hx243_0 := (HB.out.cell (World.block_lt_of_cell? w _ hx243_0)).trans hx243_0; replace p243 := eq_true p243; replace q243 := eq_true q243; obtain ⟨Ao11, co11, eo11⟩ := Kd.R_slice HO242.out; subst eo11; have p244 : 0 ≤ ((ji5) : Int) := of_decide_eq_true (by first | (with_reducible assumption) | assumption); have q244 : (ji5) < (y240.length : Int) := of_decide_eq_true (by first | (with_reducible assumption) | assumption); obtain ⟨ad244, e244, hx244_0⟩ := Kd.at_string (Kd.R_reads' HO242.out).2.2 (ji5) p244 q244; cases e244; replace p244 := eq_true p244; replace q244 := eq_true q244))
          go_roundg k1
          case measure => have := HK1.out; omega
          case rel => exact ⟨(x3_1 ++ (rdOf ByteArray.empty y240 (ji5))), (wrap64 (x4_1 + 1)), (by first | rfl | (simp; done) | (simp only [← hji5] <;> (first | rfl | simp)) | (simp [*]; done)), (by first | rfl | (simp; done) | (simp [*]; done)), H', ⟨by have := HK1.out; omega⟩, ⟨by repeat (first | (with_reducible first | exact HB.out | apply below_alloc | apply pw_below_drewN | apply below_drew1) | exact HB.out)⟩⟩
        · rw [if_neg c3] at H
          have c3b0 : decide (x4_1 < 24) = false := decide_eq_false c3
          clear c3
          obtain rfl := Option.some.inj H
          go_wp2_with (first | (go_at_call 34; refine (damperlaw1_within.keep _ _ rfl (by first | decide | assumption | exact wi_ne (by assumption) | exact wi_ne' (by assumption) | omega) _).mono ?_; rintro e w' ⟨rfl, rfl⟩))
          go_ret
          exact ⟨by first | rfl | (simp [errW_none, errW_some] <;> rfl) | (simp [*, errW_none, errW_some] <;> rfl), by repeat (first | (with_reducible first | exact HB.out | apply below_alloc | apply pw_below_drewN | apply below_drew1) | exact HB.out)⟩
      · rw [if_neg c2] at H
        have c2b0 : decide (x4_1 < (l0.length : Int)) = false := decide_eq_false c2
        clear c2
        obtain rfl := Option.some.inj H
        go_wp2_with (first | (go_at_call 34; refine (damperlaw1_within.keep _ _ rfl (by first | decide | assumption | exact wi_ne (by assumption) | exact wi_ne' (by assumption) | omega) _).mono ?_; rintro e w' ⟨rfl, rfl⟩))
        go_ret
        exact ⟨by first | rfl | (simp [errW_none, errW_some] <;> rfl) | (simp [*, errW_none, errW_some] <;> rfl), by repeat (first | (with_reducible first | exact HB.out | apply below_alloc | apply pw_below_drewN | apply below_drew1) | exact HB.out)⟩

end Go.Proofs.YtckcimahclpdfaaDoor.Ma
