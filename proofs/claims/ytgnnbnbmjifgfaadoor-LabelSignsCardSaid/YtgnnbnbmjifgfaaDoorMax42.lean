-- Written by a program of this session (wip/tools/myprint.py), in the form of the kit's print. Not trusted: Lean checks it.
import Derived.Test.YtgnnbnbmjifgfaaDoorMax0
namespace Go.Proofs.YtgnnbnbmjifgfaaDoor.Ma
open Go.RowKit Go.Proofs.YtgnnbnbmjifgfaaDoorW.PrintWords Go.Proofs.YtgnnbnbmjifgfaaDoorW.PrintLast Go.Proofs.YtgnnbnbmjifgfaaDoorW.PrintMore
attribute [local go_sem] max2_int min2_int max_two min_two max_three min_three max_four min_four   -- for this text's walks alone
set_option linter.unusedVariables false
set_option linter.unusedSimpArgs false

/-! ### damperref1_sign: function 23 -/
def damperref1_sign.j0 : Nat → Int → Option (Bool)
  | 0, _ => none
  | k + 1, x0 => if x0 ≥ 97 then (if x0 ≤ 122 then (some true) else (if x0 ≥ 48 then (if x0 ≤ 57 then (some true) else (some (x0 == 45))) else (some (x0 == 45)))) else (if x0 ≥ 48 then (if x0 ≤ 57 then (some true) else (some (x0 == 45))) else (some (x0 == 45)))
def damperref1_sign.f (k : Nat) (a0 : Int) : Option (Bool) := damperref1_sign.j0 k a0
theorem damperref1_sign.mono_l : ∀ k, (∀ y0, LeO (damperref1_sign.j0 k y0) (damperref1_sign.j0 (k + 1) y0))
  | 0 => fun _ r h => by simp [damperref1_sign.j0] at h
  | k + 1 => by
    have ih0 := damperref1_sign.mono_l k
    · intro y0
      unfold damperref1_sign.j0
      repeat' first
      | (with_reducible exact ih0 _)
      | (with_reducible exact LeO.refl _)
      | (with_reducible exact LeO.none _)
      | (with_reducible refine LeO.ite ?_ ?_)
      | (with_reducible refine LeO.bind ?_ (fun _ => ?_))
      | exact ih0 _
      | exact LeO.none _
      | refine LeO.ite ?_ ?_
      | refine LeO.bind ?_ (fun _ => ?_)
theorem damperref1_sign.mono : ∀ a0 k, LeO (damperref1_sign.f k a0) (damperref1_sign.f (k + 1) a0) := by
  intro a0 k
  have ih0 := damperref1_sign.mono_l k
  unfold damperref1_sign.f
  repeat' first
      | (with_reducible exact ih0 _)
      | (with_reducible exact LeO.refl _)
      | (with_reducible exact LeO.none _)
      | (with_reducible refine LeO.ite ?_ ?_)
      | (with_reducible refine LeO.bind ?_ (fun _ => ?_))
      | exact ih0 _
      | exact LeO.none _
      | refine LeO.ite ?_ ?_
      | refine LeO.bind ?_ (fun _ => ?_)
set_option maxHeartbeats 8000000 in
set_option maxRecDepth 100000 in
theorem damperref1_sign.calls (k : Nat) (a0 : Int) (r : Bool) (w : World) (h : damperref1_sign.f k a0 = some r) :
    Calls Tryd.prog 23 #[.int .u8 a0] w fun e w' => e = .returned (.bool r) ∧ Drawn0 w w' := by
  have H : (damperref1_sign.j0 k a0) = some r := h
  clear h
  have HC2 := Aside0.mk H
  clear H
  go_enter Tryd.func23, Tryd.ntmps23
  go_upto_region 0 with (fail)
  go_cut [] (fun wc => ∃ (kq : Nat), Aside0 (damperref1_sign.j0 kq a0 = some r) ∧ Aside0 (kq ≤ k) ∧ Drawn0 w wc)
  case first =>
    have H := HC2.out
    clear HC2
    have H' := Aside0.mk H
    clear H
    go_wp2
    go_meet
    case rel => exact ⟨_, H', ⟨by first | omega | exact Nat.le_refl _⟩, by repeat (first | exact Drawn0.refl _ | apply Drawn0.step)⟩
  case rest =>
    clear HC2
    try clear c2
    try clear p2
    obtain ⟨kq, HA, HJ1, ⟨mc1, rfl⟩⟩ := hcut
    cases kq with
    | zero => exact absurd HA.out (by simp [damperref1_sign.j0])
    | succ kj1 =>
      have H := HA.out
      clear HA
      simp only [damperref1_sign.j0] at H
      by_cases c3 : a0 ≥ 97
      · rw [if_pos c3] at H
        have c3b0 : decide (97 ≤ a0) = true := decide_eq_true c3
        clear c3
        by_cases c4 : a0 ≤ 122
        · rw [if_pos c4] at H
          have c4b0 : decide (a0 ≤ 122) = true := decide_eq_true c4
          clear c4
          obtain rfl := Option.some.inj H
          go_wp2
          go_ret
          exact ⟨by first | rfl | (simp; done) | (simp [*]; done), by repeat (first | exact Drawn0.refl _ | apply Drawn0.step)⟩
        · rw [if_neg c4] at H
          have c4b0 : decide (a0 ≤ 122) = false := decide_eq_false c4
          clear c4
          by_cases c5 : a0 ≥ 48
          · rw [if_pos c5] at H
            have c5b0 : decide (48 ≤ a0) = true := decide_eq_true c5
            clear c5
            by_cases c6 : a0 ≤ 57
            · rw [if_pos c6] at H
              have c6b0 : decide (a0 ≤ 57) = true := decide_eq_true c6
              clear c6
              obtain rfl := Option.some.inj H
              go_wp2
              go_ret
              exact ⟨by first | rfl | (simp; done) | (simp [*]; done), by repeat (first | exact Drawn0.refl _ | apply Drawn0.step)⟩
            · rw [if_neg c6] at H
              have c6b0 : decide (a0 ≤ 57) = false := decide_eq_false c6
              clear c6
              obtain rfl := Option.some.inj H
              go_wp2
              go_ret
              exact ⟨by first | rfl | (simp; done) | (simp [*]; done), by repeat (first | exact Drawn0.refl _ | apply Drawn0.step)⟩
          · rw [if_neg c5] at H
            have c5b0 : decide (48 ≤ a0) = false := decide_eq_false c5
            clear c5
            obtain rfl := Option.some.inj H
            go_wp2
            go_ret
            exact ⟨by first | rfl | (simp; done) | (simp [*]; done), by repeat (first | exact Drawn0.refl _ | apply Drawn0.step)⟩
      · rw [if_neg c3] at H
        have c3b0 : decide (97 ≤ a0) = false := decide_eq_false c3
        clear c3
        by_cases c7 : a0 ≥ 48
        · rw [if_pos c7] at H
          have c7b0 : decide (48 ≤ a0) = true := decide_eq_true c7
          clear c7
          by_cases c8 : a0 ≤ 57
          · rw [if_pos c8] at H
            have c8b0 : decide (a0 ≤ 57) = true := decide_eq_true c8
            clear c8
            obtain rfl := Option.some.inj H
            go_wp2
            go_ret
            exact ⟨by first | rfl | (simp; done) | (simp [*]; done), by repeat (first | exact Drawn0.refl _ | apply Drawn0.step)⟩
          · rw [if_neg c8] at H
            have c8b0 : decide (a0 ≤ 57) = false := decide_eq_false c8
            clear c8
            obtain rfl := Option.some.inj H
            go_wp2
            go_ret
            exact ⟨by first | rfl | (simp; done) | (simp [*]; done), by repeat (first | exact Drawn0.refl _ | apply Drawn0.step)⟩
        · rw [if_neg c7] at H
          have c7b0 : decide (48 ≤ a0) = false := decide_eq_false c7
          clear c7
          obtain rfl := Option.some.inj H
          go_wp2
          go_ret
          exact ⟨by first | rfl | (simp; done) | (simp [*]; done), by repeat (first | exact Drawn0.refl _ | apply Drawn0.step)⟩

end Go.Proofs.YtgnnbnbmjifgfaaDoor.Ma
