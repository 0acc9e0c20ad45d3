-- Written by a program of this session (wip/tools/myprint.py), in the form of the kit's print. Not trusted: Lean checks it.
import Derived.Test.YthdpnbfjpbiieaaDoorMax0
import Derived.Test.YthdpnbfjpbiieaaDoorMax4
import Derived.Test.YthdpnbfjpbiieaaDoorMax13
namespace Go.Proofs.YthdpnbfjpbiieaaDoor.Ma
open Go.RowKit Go.Proofs.YthdpnbfjpbiieaaDoorW.PrintWords Go.Proofs.YthdpnbfjpbiieaaDoorW.PrintLast Go.Proofs.YthdpnbfjpbiieaaDoorW.PrintMore
attribute [local go_sem] max2_int min2_int max_two min_two max_three min_three max_four min_four   -- for this text's walks alone
set_option linter.unusedVariables false
set_option linter.unusedSimpArgs false

/-! ### damperlaw2_known: function 11 -/
def damperlaw2_known.f (k : Nat)  : Option (Bool) := (spec_Route.f k (⟨#[97]⟩ : ByteArray) (⟨#[98]⟩ : ByteArray) ([] : List (S41)) 0).bind fun t160 => (if t160 = 3 then ((spec_Config.f k (⟨#[97]⟩ : ByteArray) 0 1 0 1 0).bind fun t161 => (if t161 = 0 then ((spec_Config.f k (⟨#[97]⟩ : ByteArray) 0 1 0 0 0).bind fun t162 => (some (t162 == 2))) else (some false))) else (some false))
theorem damperlaw2_known.mono : ∀ k, LeO (damperlaw2_known.f k ) (damperlaw2_known.f (k + 1) ) := by
  intro  k
  unfold damperlaw2_known.f
  repeat' first
      | (with_reducible exact spec_Config.mono _ _ _ _ _ _ _)
      | (with_reducible exact spec_Route.mono _ _ _ _ _)
      | (with_reducible exact LeO.refl _)
      | (with_reducible exact LeO.none _)
      | (with_reducible refine LeO.ite ?_ ?_)
      | (with_reducible refine LeO.bind ?_ (fun _ => ?_))
      | exact spec_Config.mono _ _ _ _ _ _ _
      | exact spec_Route.mono _ _ _ _ _
      | exact LeO.none _
      | refine LeO.ite ?_ ?_
      | refine LeO.bind ?_ (fun _ => ?_)
set_option maxHeartbeats 8000000 in
set_option maxRecDepth 100000 in
theorem damperlaw2_known.calls (k : Nat)  (r : Bool) (w : World) (hLd_ : Aside0 (LaidW w)) (h : damperlaw2_known.f k  = some r) :
    Calls Tryd.prog 11 #[] w fun e w' => e = .returned (.bool r) ∧ Below w.heap.size w w' := by
  have hu35 := Tryd.underlying35
  have hu23 := Tryd.underlying23
  have HB := Aside0.mk (Below.refl w.heap.size w)
  have H : ((spec_Route.f k (⟨#[97]⟩ : ByteArray) (⟨#[98]⟩ : ByteArray) ([] : List (S41)) 0).bind fun t160 => (if t160 = 3 then ((spec_Config.f k (⟨#[97]⟩ : ByteArray) 0 1 0 1 0).bind fun t161 => (if t161 = 0 then ((spec_Config.f k (⟨#[97]⟩ : ByteArray) 0 1 0 0 0).bind fun t162 => (some (t162 == 2))) else (some false))) else (some false))) = some r := h
  clear h
  replace H := Option.bind_eq_some_iff.mp H
  obtain ⟨t160, A10, H⟩ := H
  replace H : (if t160 = 3 then ((spec_Config.f k (⟨#[97]⟩ : ByteArray) 0 1 0 1 0).bind fun t161 => (if t161 = 0 then ((spec_Config.f k (⟨#[97]⟩ : ByteArray) 0 1 0 0 0).bind fun t162 => (some (t162 == 2))) else (some false))) else (some false)) = some r := H
  have A1 := Aside0.mk A10
  clear A10
  by_cases c2 : t160 = 3
  · rw [if_pos c2] at H
    have c2b0 : (t160 == 3) = true := beq_iff_eq.mpr c2
    have c2b1 : (t160 != 3) = false := bne_eq_false_iff_eq.mpr c2
    clear c2
    replace H := Option.bind_eq_some_iff.mp H
    obtain ⟨t161, A30, H⟩ := H
    replace H : (if t161 = 0 then ((spec_Config.f k (⟨#[97]⟩ : ByteArray) 0 1 0 0 0).bind fun t162 => (some (t162 == 2))) else (some false)) = some r := H
    have A3 := Aside0.mk A30
    clear A30
    by_cases c4 : t161 = 0
    · rw [if_pos c4] at H
      have c4b0 : (t161 == 0) = true := beq_iff_eq.mpr c4
      have c4b1 : (t161 != 0) = false := bne_eq_false_iff_eq.mpr c4
      clear c4
      replace H := Option.bind_eq_some_iff.mp H
      obtain ⟨t162, A50, H⟩ := H
      replace H : (some (t162 == 2)) = some r := H
      have A5 := Aside0.mk A50
      clear A50
      obtain rfl := Option.some.inj H
      go_enter Tryd.func11, Tryd.ntmps11
      go_wp2_with (first | ((with_reducible refine gate_callee (f := 19) rfl ?_); refine goesL_ (some 2) rfl rfl Tryd.func19 (by kernel_rfl) rfl #[.agg #[.string (⟨#[97]⟩ : ByteArray), .string (⟨#[98]⟩ : ByteArray), .slice none 0 0, .int .i64 0]] rfl (by (try simp only [List.map_toArray, List.map_cons, List.map_nil]); first | done | rfl | (simp only [List.length_drop, List.length_take]; rfl)) ?_; (refine (spec_Route.calls k (⟨#[97]⟩ : ByteArray) (⟨#[98]⟩ : ByteArray) _ _ ([] : List (S41)) 0 t160 _ ?side3 ?side1 ?side2 A1.out).mono ?_); (case side1 => exact Kd.C_nil _ _); (case side2 => exact Nat.le_refl _); (case side3 => first | exact hLd_.out | exact hLd_ | exact ⟨LaidW.below hLd_.out (by repeat (first | (with_reducible first | exact HB.out | apply below_alloc | apply pw_below_drewN | apply below_drew1) | exact HB.out))⟩ | exact ⟨LaidW.below hLd_.out (by repeat (first | exact Below.refl _ _ | apply below_alloc | apply pw_below_drewN | apply below_drew1))⟩); rintro e w6 ⟨rfl, hb⟩; refine ⟨_, rfl, ?_⟩; have n0_ := Aside0.mk (below_step (by repeat (first | (with_reducible first | exact HB.out | apply below_alloc | apply pw_below_drewN | apply below_drew1) | exact HB.out)) hb); clear HB; have HB := n0_; clear n0_; (try clear hb); (try clear hb2); (try clear hk); (try clear hi)) | (go_at_call 13; (with_reducible refine (spec_Config.calls k (⟨#[97]⟩ : ByteArray) 0 1 0 1 0 t161 _ A3.out).mono ?_); rintro e w7 ⟨rfl, hb⟩; have n0_ := Aside0.mk (below_step (by repeat (first | (with_reducible first | exact HB.out | apply below_alloc | apply pw_below_drewN | apply below_drew1) | exact HB.out)) hb); clear HB; have HB := n0_; clear n0_; (try clear hb); (try clear hb2); (try clear hk); (try clear hi)) | (go_at_call 13; (with_reducible refine (spec_Config.calls k (⟨#[97]⟩ : ByteArray) 0 1 0 0 0 t162 _ A5.out).mono ?_); rintro e w8 ⟨rfl, hb⟩; have n0_ := Aside0.mk (below_step (by repeat (first | (with_reducible first | exact HB.out | apply below_alloc | apply pw_below_drewN | apply below_drew1) | exact HB.out)) hb); clear HB; have HB := n0_; clear n0_; (try clear hb); (try clear hb2); (try clear hk); (try clear hi)))
      go_ret
      exact ⟨by first | rfl | (simp [errW_none, errW_some] <;> rfl) | (simp [*, errW_none, errW_some] <;> rfl), by repeat (first | (with_reducible first | exact HB.out | apply below_alloc | apply pw_below_drewN | apply below_drew1) | exact HB.out)⟩
    · rw [if_neg c4] at H
      have c4b0 : (t161 == 0) = false := beq_eq_false_iff_ne.mpr c4
      have c4b1 : (t161 != 0) = true := bne_iff_ne.mpr c4
      obtain rfl := Option.some.inj H
      go_enter Tryd.func11, Tryd.ntmps11
      go_wp2_with (first | ((with_reducible refine gate_callee (f := 19) rfl ?_); refine goesL_ (some 2) rfl rfl Tryd.func19 (by kernel_rfl) rfl #[.agg #[.string (⟨#[97]⟩ : ByteArray), .string (⟨#[98]⟩ : ByteArray), .slice none 0 0, .int .i64 0]] rfl (by (try simp only [List.map_toArray, List.map_cons, List.map_nil]); first | done | rfl | (simp only [List.length_drop, List.length_take]; rfl)) ?_; (refine (spec_Route.calls k (⟨#[97]⟩ : ByteArray) (⟨#[98]⟩ : ByteArray) _ _ ([] : List (S41)) 0 t160 _ ?side3 ?side1 ?side2 A1.out).mono ?_); (case side1 => exact Kd.C_nil _ _); (case side2 => exact Nat.le_refl _); (case side3 => first | exact hLd_.out | exact hLd_ | exact ⟨LaidW.below hLd_.out (by repeat (first | (with_reducible first | exact HB.out | apply below_alloc | apply pw_below_drewN | apply below_drew1) | exact HB.out))⟩ | exact ⟨LaidW.below hLd_.out (by repeat (first | exact Below.refl _ _ | apply below_alloc | apply pw_below_drewN | apply below_drew1))⟩); rintro e w9 ⟨rfl, hb⟩; refine ⟨_, rfl, ?_⟩; have n0_ := Aside0.mk (below_step (by repeat (first | (with_reducible first | exact HB.out | apply below_alloc | apply pw_below_drewN | apply below_drew1) | exact HB.out)) hb); clear HB; have HB := n0_; clear n0_; (try clear hb); (try clear hb2); (try clear hk); (try clear hi)) | (go_at_call 13; (with_reducible refine (spec_Config.calls k (⟨#[97]⟩ : ByteArray) 0 1 0 1 0 t161 _ A3.out).mono ?_); rintro e w10 ⟨rfl, hb⟩; have n0_ := Aside0.mk (below_step (by repeat (first | (with_reducible first | exact HB.out | apply below_alloc | apply pw_below_drewN | apply below_drew1) | exact HB.out)) hb); clear HB; have HB := n0_; clear n0_; (try clear hb); (try clear hb2); (try clear hk); (try clear hi)))
      go_ret
      exact ⟨by first | rfl | (simp [errW_none, errW_some] <;> rfl) | (simp [*, errW_none, errW_some] <;> rfl), by repeat (first | (with_reducible first | exact HB.out | apply below_alloc | apply pw_below_drewN | apply below_drew1) | exact HB.out)⟩
  · rw [if_neg c2] at H
    have c2b0 : (t160 == 3) = false := beq_eq_false_iff_ne.mpr c2
    have c2b1 : (t160 != 3) = true := bne_iff_ne.mpr c2
    obtain rfl := Option.some.inj H
    go_enter Tryd.func11, Tryd.ntmps11
    go_wp2_with (first | ((with_reducible refine gate_callee (f := 19) rfl ?_); refine goesL_ (some 2) rfl rfl Tryd.func19 (by kernel_rfl) rfl #[.agg #[.string (⟨#[97]⟩ : ByteArray), .string (⟨#[98]⟩ : ByteArray), .slice none 0 0, .int .i64 0]] rfl (by (try simp only [List.map_toArray, List.map_cons, List.map_nil]); first | done | rfl | (simp only [List.length_drop, List.length_take]; rfl)) ?_; (refine (spec_Route.calls k (⟨#[97]⟩ : ByteArray) (⟨#[98]⟩ : ByteArray) _ _ ([] : List (S41)) 0 t160 _ ?side3 ?side1 ?side2 A1.out).mono ?_); (case side1 => exact Kd.C_nil _ _); (case side2 => exact Nat.le_refl _); (case side3 => first | exact hLd_.out | exact hLd_ | exact ⟨LaidW.below hLd_.out (by repeat (first | (with_reducible first | exact HB.out | apply below_alloc | apply pw_below_drewN | apply below_drew1) | exact HB.out))⟩ | exact ⟨LaidW.below hLd_.out (by repeat (first | exact Below.refl _ _ | apply below_alloc | apply pw_below_drewN | apply below_drew1))⟩); rintro e w11 ⟨rfl, hb⟩; refine ⟨_, rfl, ?_⟩; have n0_ := Aside0.mk (below_step (by repeat (first | (with_reducible first | exact HB.out | apply below_alloc | apply pw_below_drewN | apply below_drew1) | exact HB.out)) hb); clear HB; have HB := n0_; clear n0_; (try clear hb); (try clear hb2); (try clear hk); (try clear hi)))
    go_ret
    exact ⟨by first | rfl | (simp [errW_none, errW_some] <;> rfl) | (simp [*, errW_none, errW_some] <;> rfl), by repeat (first | (with_reducible first | exact HB.out | apply below_alloc | apply pw_below_drewN | apply below_drew1) | exact HB.out)⟩

/-! ### damperlaw2_within: function 15 -/
def damperlaw2_within.f (a0 : Int) (a1 : Int) : Option (Int) := if a1 = 0 then (none) else some (wi a0 a1)
set_option maxHeartbeats 8000000 in
set_option maxRecDepth 100000 in
theorem damperlaw2_within.same (a0 : Int) (a1 : Int) {r : Int} (hr : wi a0 a1 = r) (c3 : a1 ≠ 0) (w : World) :
    Calls Tryd.prog 15 #[.int .i64 a0, .int .i64 a1] w fun e w' => e = .returned (.int .i64 r) ∧ w' = w := by
  subst hr
  have c3b0 : (a1 == 0) = false := beq_eq_false_iff_ne.mpr c3
  have c3b1 : (a1 != 0) = true := bne_iff_ne.mpr c3
  by_cases c4 : (Int.tmod a0 a1) < 0
  · have hw : wi a0 a1 = wrap64 (Int.tmod a0 a1 + a1) := by unfold wi; rw [if_pos c4]
    rw [hw]; clear hw
    have c4b0 : decide ((Int.tmod a0 a1) < 0) = true := decide_eq_true c4
    clear c4
    go_enter Tryd.func15, Tryd.ntmps15
    go_wp2
    go_ret
    exact ⟨by first | rfl | (simp; done) | (simp [*]; done), rfl⟩
  · have hw : wi a0 a1 = Int.tmod a0 a1 := by unfold wi; rw [if_neg c4]
    rw [hw]; clear hw
    have c4b0 : decide ((Int.tmod a0 a1) < 0) = false := decide_eq_false c4
    clear c4
    go_enter Tryd.func15, Tryd.ntmps15
    go_wp2
    go_ret
    exact ⟨by first | rfl | (simp; done) | (simp [*]; done), rfl⟩
theorem damperlaw2_within.keep (a0 : Int) (a1 : Int) {r : Int} (hr : wi a0 a1 = r) (c3 : a1 ≠ 0) (w : World) :
    Calls Tryd.prog 15 #[.int .i64 a0, .int .i64 a1] w fun e w' => e = .returned (.int .i64 r) ∧ w = w' :=
  (damperlaw2_within.same a0 a1 hr c3 w).mono fun _ _ h => ⟨h.1, h.2.symm⟩
theorem damperlaw2_within.calls (a0 : Int) (a1 : Int) (r : Int) (w : World) (h : damperlaw2_within.f a0 a1 = some r) :
    Calls Tryd.prog 15 #[.int .i64 a0, .int .i64 a1] w fun e w' => e = .returned (.int .i64 r) ∧ Drawn0 w w' := by
  unfold damperlaw2_within.f at h
  by_cases c3 : a1 = 0
  · rw [if_pos c3] at h; cases h
  rw [if_neg c3] at h
  refine (damperlaw2_within.same a0 a1 (Option.some.inj h) c3 w).mono ?_
  rintro e w' ⟨rfl, rfl⟩
  exact ⟨rfl, Drawn0.refl _⟩

/-! ### damperlaw2_Config: function 12 -/
def damperlaw2_Config.f (a0_0 : ByteArray) (a0_1 : Int) (a0_2 : Int) (a0_3 : Int) (a0_4 : Int) (a0_5 : Int) (a1 : Int) : Option (ByteArray × Int × Int × Int × Int × Int) := (some (([(⟨#[119, 101, 98]⟩ : ByteArray), (⟨#[97, 112, 105]⟩ : ByteArray), (⟨#[97, 45, 98]⟩ : ByteArray)] : List ByteArray) : List ByteArray)).bind fun y165 => (if 0 ≤ (wi a1 3) then (if (wi a1 3) < (y165.length : Int) then (if (wrap64 ((wrap64 (1 + (wi a0_4 10))) + 1)) = 0 then (none) else (some (rdOf ByteArray.empty y165 (wi a1 3), wi a0_1 256, wrap64 (1 + (wi a0_2 8)), wi a0_3 (wrap64 ((wrap64 (1 + (wi a0_4 10))) + 1)), wrap64 (1 + (wi a0_4 10)), wi a0_5 31))) else (none)) else (none))
set_option maxHeartbeats 8000000 in
set_option maxRecDepth 100000 in
theorem damperlaw2_Config.calls (a0_0 : ByteArray) (a0_1 : Int) (a0_2 : Int) (a0_3 : Int) (a0_4 : Int) (a0_5 : Int) (a1 : Int) (r1 : ByteArray) (r2 : Int) (r3 : Int) (r4 : Int) (r5 : Int) (r6 : Int) (w : World) (h : damperlaw2_Config.f a0_0 a0_1 a0_2 a0_3 a0_4 a0_5 a1 = some (r1, r2, r3, r4, r5, r6)) :
    Calls Tryd.prog 12 #[.agg #[.string a0_0, .int .i64 a0_1, .int .i64 a0_2, .int .i64 a0_3, .int .i64 a0_4, .int .i64 a0_5], .int .i64 a1] w fun e w' => e = .returned (.agg #[.string r1, .int .i64 r2, .int .i64 r3, .int .i64 r4, .int .i64 r5, .int .i64 r6]) ∧ Below w.heap.size w w' := by
  have hu23 := Tryd.underlying23
  have HB := Aside0.mk (Below.refl w.heap.size w)
  have H : ((some (([(⟨#[119, 101, 98]⟩ : ByteArray), (⟨#[97, 112, 105]⟩ : ByteArray), (⟨#[97, 45, 98]⟩ : ByteArray)] : List ByteArray) : List ByteArray)).bind fun y165 => (if 0 ≤ (wi a1 3) then (if (wi a1 3) < (y165.length : Int) then (if (wrap64 ((wrap64 (1 + (wi a0_4 10))) + 1)) = 0 then (none) else (some (rdOf ByteArray.empty y165 (wi a1 3), wi a0_1 256, wrap64 (1 + (wi a0_2 8)), wi a0_3 (wrap64 ((wrap64 (1 + (wi a0_4 10))) + 1)), wrap64 (1 + (wi a0_4 10)), wi a0_5 31))) else (none)) else (none))) = some (r1, r2, r3, r4, r5, r6) := h
  clear h
  obtain ⟨y165, hy165⟩ : ∃ y_ : List ByteArray, y_ = (([(⟨#[119, 101, 98]⟩ : ByteArray), (⟨#[97, 112, 105]⟩ : ByteArray), (⟨#[97, 45, 98]⟩ : ByteArray)] : List ByteArray)) := ⟨_, rfl⟩
  replace H : (if 0 ≤ (wi a1 3) then (if (wi a1 3) < (y165.length : Int) then (if (wrap64 ((wrap64 (1 + (wi a0_4 10))) + 1)) = 0 then (none) else (some (rdOf ByteArray.empty y165 (wi a1 3), wi a0_1 256, wrap64 (1 + (wi a0_2 8)), wi a0_3 (wrap64 ((wrap64 (1 + (wi a0_4 10))) + 1)), wrap64 (1 + (wi a0_4 10)), wi a0_5 31))) else (none)) else (none)) = some (r1, r2, r3, r4, r5, r6) := by first | (rw [hy165]; with_reducible exact H) | (have H2_ := (Option.bind_some _ _).symm.trans H; rw [hy165]; with_reducible exact H2_) | (have H2_ := (Option.bind_some _ _).symm.trans H; with_reducible exact H2_) | with_reducible exact H | (rw [hy165]; exact H) | exact H
  have Ny165 := Aside0.mk hy165
  clear hy165
  obtain ⟨ji3, hji3⟩ : ∃ j_ : Int, (wi a1 3) = j_ := ⟨_, rfl⟩
  replace H : (if 0 ≤ (ji3) then (if (ji3) < (y165.length : Int) then (if (wrap64 ((wrap64 (1 + (wi a0_4 10))) + 1)) = 0 then (none) else (some (rdOf ByteArray.empty y165 (ji3), wi a0_1 256, wrap64 (1 + (wi a0_2 8)), wi a0_3 (wrap64 ((wrap64 (1 + (wi a0_4 10))) + 1)), wrap64 (1 + (wi a0_4 10)), wi a0_5 31))) else (none)) else (none)) = some (r1, r2, r3, r4, r5, r6) := by first | (rw [hji3] at H; exact H) | (simp only [hji3] at H ⊢; exact H)
  by_cases c4 : 0 ≤ (ji3)
  rotate_left
  · rw [if_neg c4] at H
    exact absurd H (by simp)
  rw [if_pos c4] at H
  have c4b0 : decide (0 ≤ (ji3)) = true := decide_eq_true c4
  clear c4
  by_cases c5 : (ji3) < (y165.length : Int)
  rotate_left
  · rw [if_neg c5] at H
    exact absurd H (by simp)
  rw [if_pos c5] at H
  have c5b0 : decide ((ji3) < (y165.length : Int)) = true := decide_eq_true c5
  clear c5
  obtain ⟨ji6, hji6⟩ : ∃ j_ : Int, (wi a0_1 256) = j_ := ⟨_, rfl⟩
  replace H : (if (wrap64 ((wrap64 (1 + (wi a0_4 10))) + 1)) = 0 then (none) else (some (rdOf ByteArray.empty y165 (ji3), ji6, wrap64 (1 + (wi a0_2 8)), wi a0_3 (wrap64 ((wrap64 (1 + (wi a0_4 10))) + 1)), wrap64 (1 + (wi a0_4 10)), wi a0_5 31))) = some (r1, r2, r3, r4, r5, r6) := by first | (rw [hji6] at H; exact H) | (simp only [hji6] at H ⊢; exact H)
  obtain ⟨ji7, hji7⟩ : ∃ j_ : Int, (wi a0_2 8) = j_ := ⟨_, rfl⟩
  replace H : (if (wrap64 ((wrap64 (1 + (wi a0_4 10))) + 1)) = 0 then (none) else (some (rdOf ByteArray.empty y165 (ji3), ji6, wrap64 (1 + (ji7)), wi a0_3 (wrap64 ((wrap64 (1 + (wi a0_4 10))) + 1)), wrap64 (1 + (wi a0_4 10)), wi a0_5 31))) = some (r1, r2, r3, r4, r5, r6) := by first | (rw [hji7] at H; exact H) | (simp only [hji7] at H ⊢; exact H)
  obtain ⟨ji8, hji8⟩ : ∃ j_ : Int, (wi a0_4 10) = j_ := ⟨_, rfl⟩
  replace H : (if (wrap64 ((wrap64 (1 + (ji8))) + 1)) = 0 then (none) else (some (rdOf ByteArray.empty y165 (ji3), ji6, wrap64 (1 + (ji7)), wi a0_3 (wrap64 ((wrap64 (1 + (ji8))) + 1)), wrap64 (1 + (ji8)), wi a0_5 31))) = some (r1, r2, r3, r4, r5, r6) := by first | (rw [hji8] at H; exact H) | (simp only [hji8] at H ⊢; exact H)
  by_cases c9 : (wrap64 ((wrap64 (1 + (ji8))) + 1)) = 0
  · rw [if_pos c9] at H
    exact absurd H (by simp)
  rw [if_neg c9] at H
  have c9b0 : ((wrap64 ((wrap64 (1 + (ji8))) + 1)) == 0) = false := beq_eq_false_iff_ne.mpr c9
  have c9b1 : ((wrap64 ((wrap64 (1 + (ji8))) + 1)) != 0) = true := bne_iff_ne.mpr c9
  obtain ⟨ji10, hji10⟩ : ∃ j_ : Int, (wi a0_3 (wrap64 ((wrap64 (1 + (ji8))) + 1))) = j_ := ⟨_, rfl⟩
  replace H : (some (rdOf ByteArray.empty y165 (ji3), ji6, wrap64 (1 + (ji7)), ji10, wrap64 (1 + (ji8)), wi a0_5 31)) = some (r1, r2, r3, r4, r5, r6) := by first | (rw [hji10] at H; exact H) | (simp only [hji10] at H ⊢; exact H)
  obtain ⟨ji11, hji11⟩ : ∃ j_ : Int, (wi a0_5 31) = j_ := ⟨_, rfl⟩
  replace H : (some (rdOf ByteArray.empty y165 (ji3), ji6, wrap64 (1 + (ji7)), ji10, wrap64 (1 + (ji8)), ji11)) = some (r1, r2, r3, r4, r5, r6) := by first | (rw [hji11] at H; exact H) | (simp only [hji11] at H ⊢; exact H)
  simp only [Option.some.injEq, Prod.mk.injEq] at H
  obtain ⟨rfl, rfl, rfl, rfl, rfl, rfl⟩ := H
  go_enter Tryd.func12, Tryd.ntmps12
  go_wp2_with (first | (go_at_call 15; refine (damperlaw2_within.keep _ _ rfl (by first | decide | assumption | exact wi_ne (by assumption) | exact wi_ne' (by assumption) | omega) _).mono ?_; rintro e w' ⟨rfl, rfl⟩) | ((with_reducible refine gate_dst (N := 2) rfl ?_); refine box_event ?hg (N := 2) ?hd (cs := #[.string a0_0, .int .i64 a0_1, .int .i64 a0_2, .int .i64 a0_3, .int .i64 a0_4, .int .i64 a0_5]) (t := 23) ?hr ?_; (case hd => rfl); (case hg => rfl); (case hr => first | (go_simp; done) | (go_simp; rfl)); intro gb163 hg w12 hbox hb; have n0_ := Aside0.mk (below_step (by repeat (first | (with_reducible first | exact HB.out | apply below_alloc | apply pw_below_drewN | apply below_drew1) | exact HB.out)) hb); have n1_ := Aside0.mk (hbox); have n2_ := Aside0.mk ((by rw [hg]; exact (below_size (by repeat (first | (with_reducible first | exact HB.out | apply below_alloc | apply pw_below_drewN | apply below_drew1) | exact HB.out))) : w.heap.size ≤ gb163)); have n3_ := Aside0.mk ((by rw [hg]; exact (below_size (by repeat (first | (with_reducible first | exact HB.out | apply below_alloc | apply pw_below_drewN | apply below_drew1) | exact HB.out))) : w.heap.size ≤ gb163)); clear HB; have HB := n0_; have BK163 := n1_; have GW163 := n2_; have GE163 := n3_; clear n0_ n1_ n2_ n3_; clear hb hbox hg) | ((with_reducible refine gate_dst (N := 4) rfl ?_); refine box_event ?hg (N := 4) ?hd (cs := #[.string (⟨#[]⟩ : ByteArray), .int .i64 0, .int .i64 0, .int .i64 0, .int .i64 0, .int .i64 0]) (t := 23) ?hr ?_; (case hd => rfl); (case hg => rfl); (case hr => first | (go_simp; done) | (go_simp; rfl)); intro gb164 hg w13 hbox hb; have n0_ := Aside0.mk (blk_below (g := gb163) (pk BK163) hb); have n1_ := Aside0.mk (below_step (by repeat (first | (with_reducible first | exact HB.out | apply below_alloc | apply pw_below_drewN | apply below_drew1 | refine below_set ?_ GE163.out) | exact HB.out)) hb); have n2_ := Aside0.mk (hbox); have n3_ := Aside0.mk ((by rw [hg]; exact (below_size (by repeat (first | (with_reducible first | exact HB.out | apply below_alloc | apply pw_below_drewN | apply below_drew1 | refine below_set ?_ GE163.out) | exact HB.out))) : w.heap.size ≤ gb164)); have n4_ := Aside0.mk ((by rw [hg]; exact (below_size (by repeat (first | (with_reducible first | exact HB.out | apply below_alloc | apply pw_below_drewN | apply below_drew1 | refine below_set ?_ GE163.out) | exact HB.out))) : w.heap.size ≤ gb164)); have n5_ := Aside0.mk ((ne_lt hg (pk BK163) : gb163 ≠ gb164)); have n6_ := Aside0.mk ((ne_gt hg (pk BK163) : gb164 ≠ gb163)); clear BK163; clear HB; have BK163 := n0_; have HB := n1_; have BK164 := n2_; have GW164 := n3_; have GE164 := n4_; have NB163_164 := n5_; have NB164_163 := n6_; clear n0_ n1_ n2_ n3_ n4_ n5_ n6_; clear hb hbox hg) | ((with_reducible refine gate_dst (N := 5) rfl ?_); refine Kd.R_lit Kd.string _ 9 ?hg (N := 5) ?hd (xs := ([(⟨#[119, 101, 98]⟩ : ByteArray), (⟨#[97, 112, 105]⟩ : ByteArray), (⟨#[97, 45, 98]⟩ : ByteArray)] : List ByteArray)) (inner := [.string (⟨#[119, 101, 98]⟩ : ByteArray), .string (⟨#[97, 112, 105]⟩ : ByteArray), .string (⟨#[97, 45, 98]⟩ : ByteArray)]) (ok := fun _ => True) (okp := fun _ => True) ?hr ?hp (fun _ hk => hk) trivial (Below.refl _ _) (Nat.le_refl _) (by simp) ?_; (case hd => rfl); (case hg => rfl); (case hr => first | (go_simp; done) | (go_simp; rfl)); (case hp => exact (Reps.one (show Kd.M Kd.string _ _ _ (⟨#[119, 101, 98]⟩ : ByteArray) [.string (⟨#[119, 101, 98]⟩ : ByteArray)] from rfl) (Reps.one (show Kd.M Kd.string _ _ _ (⟨#[97, 112, 105]⟩ : ByteArray) [.string (⟨#[97, 112, 105]⟩ : ByteArray)] from rfl) (Reps.one (show Kd.M Kd.string _ _ _ (⟨#[97, 45, 98]⟩ : ByteArray) [.string (⟨#[97, 45, 98]⟩ : ByteArray)] from rfl) (Reps.none _ _))))); intro v166 w14 ho15 hb hg_ hnew_; clear hg_ hnew_; (first | rw [← Ny165.out] at ho15 | (simp only [Int.reduceToNat] at ho15; rw [← Ny165.out] at ho15)); have n0_ := Aside0.mk (Kd.R_lower ho15 (below_size (by repeat (first | (with_reducible first | exact HB.out | apply below_alloc | apply pw_below_drewN | apply below_drew1 | refine below_set ?_ GE163.out | refine below_set ?_ GE164.out) | exact HB.out)))); have n1_ := Aside0.mk (blk_below (g := gb163) (pk BK163) hb); have n2_ := Aside0.mk (blk_below (g := gb164) (pk BK164) hb); have n3_ := Aside0.mk (below_step (by repeat (first | (with_reducible first | exact HB.out | apply below_alloc | apply pw_below_drewN | apply below_drew1 | refine below_set ?_ GE163.out | refine below_set ?_ GE164.out) | exact HB.out)) hb); clear BK163; clear BK164; clear HB; have HO167 := n0_; have BK163 := n1_; have BK164 := n2_; have HB := n3_; clear n0_ n1_ n2_ n3_; clear hb ho15; obtain ⟨Ao16, co16, eo16⟩ := Kd.R_slice HO167.out; subst eo16; have p168 : 0 ≤ ((ji3) : Int) := of_decide_eq_true (by first | (with_reducible assumption) | assumption); have q168 : (ji3) < (y165.length : Int) := of_decide_eq_true (by first | (with_reducible assumption) | assumption); obtain ⟨ad168, e168, hx168_0⟩ := Kd.at_string (Kd.R_reads' HO167.out).2.2 (ji3) p168 q168; cases e168; replace p168 := eq_true p168; replace q168 := eq_true q168; have hnb17 := NB163_164.out; have hnc17 := NB164_163.out; have hcz18_0 : w14.cell? ⟨gb163, 0, none⟩ = some (.string a0_0) := bc BK163 0; have hcz18_1 : w14.cell? ⟨gb163, 1, none⟩ = some (.int .i64 a0_1) := bc BK163 1; have hcz18_2 : w14.cell? ⟨gb163, 2, none⟩ = some (.int .i64 a0_2) := bc BK163 2; have hcz18_3 : w14.cell? ⟨gb163, 3, none⟩ = some (.int .i64 a0_3) := bc BK163 3; have hcz18_4 : w14.cell? ⟨gb163, 4, none⟩ = some (.int .i64 a0_4) := bc BK163 4; have hcz18_5 : w14.cell? ⟨gb163, 5, none⟩ = some (.int .i64 a0_5) := bc BK163 5; have hfz18_0 := blk_frozen BK163.out 0; have hfz18_1 := blk_frozen BK163.out 1; have hfz18_2 := blk_frozen BK163.out 2; have hfz18_3 := blk_frozen BK163.out 3; have hfz18_4 := blk_frozen BK163.out 4; have hfz18_5 := blk_frozen BK163.out 5; have hcz19_0 : w14.cell? ⟨gb164, 0, none⟩ = some (.string (⟨#[]⟩ : ByteArray)) := bc BK164 0; have hcz19_1 : w14.cell? ⟨gb164, 1, none⟩ = some (.int .i64 0) := bc BK164 1; have hcz19_2 : w14.cell? ⟨gb164, 2, none⟩ = some (.int .i64 0) := bc BK164 2; have hcz19_3 : w14.cell? ⟨gb164, 3, none⟩ = some (.int .i64 0) := bc BK164 3; have hcz19_4 : w14.cell? ⟨gb164, 4, none⟩ = some (.int .i64 0) := bc BK164 4; have hcz19_5 : w14.cell? ⟨gb164, 5, none⟩ = some (.int .i64 0) := bc BK164 5; have hfz19_0 := blk_frozen BK164.out 0; have hfz19_1 := blk_frozen BK164.out 1; have hfz19_2 := blk_frozen BK164.out 2; have hfz19_3 := blk_frozen BK164.out 3; have hfz19_4 := blk_frozen BK164.out 4; have hfz19_5 := blk_frozen BK164.out 5))
  refine bodyPost_ret (results_cell_row rfl _ _ gb164 23 #[.string (rdOf ByteArray.empty y165 (ji3)), .int .i64 ji6, .int .i64 (wrap64 (1 + (ji7))), .int .i64 ji10, .int .i64 (wrap64 (1 + (ji8))), .int .i64 ji11] (0, 0) _ rfl (by (with_reducible repeat (first | refine blk_drewN ?_ _ | refine blk_drew ?_ | refine blk_alloc ?_ _)); refine blk_put (cs := #[.string (rdOf ByteArray.empty y165 (ji3)), .int .i64 ji6, .int .i64 (wrap64 (1 + (ji7))), .int .i64 ji10, .int .i64 (wrap64 (1 + (ji8))), .int .i64 0]) ?_ 5 _ rfl; (with_reducible repeat (first | refine blk_drewN ?_ _ | refine blk_drew ?_ | refine blk_alloc ?_ _)); refine blk_put (cs := #[.string (rdOf ByteArray.empty y165 (ji3)), .int .i64 ji6, .int .i64 (wrap64 (1 + (ji7))), .int .i64 ji10, .int .i64 0, .int .i64 0]) ?_ 4 _ rfl; (with_reducible repeat (first | refine blk_drewN ?_ _ | refine blk_drew ?_ | refine blk_alloc ?_ _)); refine blk_put (cs := #[.string (rdOf ByteArray.empty y165 (ji3)), .int .i64 ji6, .int .i64 (wrap64 (1 + (ji7))), .int .i64 0, .int .i64 0, .int .i64 0]) ?_ 3 _ rfl; (with_reducible repeat (first | refine blk_drewN ?_ _ | refine blk_drew ?_ | refine blk_alloc ?_ _)); refine blk_put (cs := #[.string (rdOf ByteArray.empty y165 (ji3)), .int .i64 ji6, .int .i64 0, .int .i64 0, .int .i64 0, .int .i64 0]) ?_ 2 _ rfl; (with_reducible repeat (first | refine blk_drewN ?_ _ | refine blk_drew ?_ | refine blk_alloc ?_ _)); refine blk_put (cs := #[.string (rdOf ByteArray.empty y165 (ji3)), .int .i64 0, .int .i64 0, .int .i64 0, .int .i64 0, .int .i64 0]) ?_ 1 _ rfl; (with_reducible repeat (first | refine blk_drewN ?_ _ | refine blk_drew ?_ | refine blk_alloc ?_ _)); refine blk_put (cs := #[.string (⟨#[]⟩ : ByteArray), .int .i64 0, .int .i64 0, .int .i64 0, .int .i64 0, .int .i64 0]) ?_ 0 _ rfl; (repeat ((with_reducible repeat (first | refine blk_drewN ?_ _ | refine blk_drew ?_ | refine blk_alloc ?_ _)); with_reducible refine blk_far ?_ NB164_163.out _)); (with_reducible repeat (first | refine blk_drewN ?_ _ | refine blk_drew ?_ | refine blk_alloc ?_ _)); exact BK164.out) Tryd.underlying23 rfl (by kernel_rfl)) rfl ?_
  exact ⟨by first | rfl | (simp [errW_none, errW_some] <;> rfl) | (simp only [← hji3, ← hji6, ← hji7, ← hji8, ← hji10, ← hji11]; first | rfl | (simp [errW_none, errW_some] <;> rfl)) | (simp [*, errW_none, errW_some] <;> rfl), by repeat (first | (with_reducible first | exact HB.out | apply below_alloc | apply pw_below_drewN | apply below_drew1 | refine below_set ?_ GE163.out | refine below_set ?_ GE164.out) | exact HB.out)⟩

/-! ### damperref1_sign: function 35 -/
def damperref1_sign.j0 : Nat → Int → Option (Bool)
  | 0, _ => none
  | k + 1, x0 => if x0 ≥ 97 then (if x0 ≤ 122 then (some true) else (if x0 ≥ 48 then (if x0 ≤ 57 then (some true) else (some (x0 == 45))) else (some (x0 == 45)))) else (if x0 ≥ 48 then (if x0 ≤ 57 then (some true) else (some (x0 == 45))) else (some (x0 == 45)))
def damperref1_sign.f (k : Nat) (a0 : Int) : Option (Bool) := damperref1_sign.j0 k a0
theorem damperref1_sign.mono_l : ∀ k, (∀ y0, LeO (damperref1_sign.j0 k y0) (damperref1_sign.j0 (k + 1) y0))
  | 0 => fun _ r h => by simp [damperref1_sign.j0] at h
  | k + 1 => by
    have ih0 := damperref1_sign.mono_l k
    · intro y0
      unfold damperref1_sign.j0
      repeat' first
      | (with_reducible exact ih0 _)
      | (with_reducible exact LeO.refl _)
      | (with_reducible exact LeO.none _)
      | (with_reducible refine LeO.ite ?_ ?_)
      | (with_reducible refine LeO.bind ?_ (fun _ => ?_))
      | exact ih0 _
      | exact LeO.none _
      | refine LeO.ite ?_ ?_
      | refine LeO.bind ?_ (fun _ => ?_)
theorem damperref1_sign.mono : ∀ a0 k, LeO (damperref1_sign.f k a0) (damperref1_sign.f (k + 1) a0) := by
  intro a0 k
  have ih0 := damperref1_sign.mono_l k
  unfold damperref1_sign.f
  repeat' first
      | (with_reducible exact ih0 _)
      | (with_reducible exact LeO.refl _)
      | (with_reducible exact LeO.none _)
      | (with_reducible refine LeO.ite ?_ ?_)
      | (with_reducible refine LeO.bind ?_ (fun _ => ?_))
      | exact ih0 _
      | exact LeO.none _
      | refine LeO.ite ?_ ?_
      | refine LeO.bind ?_ (fun _ => ?_)
set_option maxHeartbeats 8000000 in
set_option maxRecDepth 100000 in
theorem damperref1_sign.calls (k : Nat) (a0 : Int) (r : Bool) (w : World) (h : damperref1_sign.f k a0 = some r) :
    Calls Tryd.prog 35 #[.int .u8 a0] w fun e w' => e = .returned (.bool r) ∧ Drawn0 w w' := by
  have H : (damperref1_sign.j0 k a0) = some r := h
  clear h
  have HC2 := Aside0.mk H
  clear H
  go_enter Tryd.func35, Tryd.ntmps35
  go_upto_region 0 with (fail)
  go_cut [] (fun wc => ∃ (kq : Nat), Aside0 (damperref1_sign.j0 kq a0 = some r) ∧ Aside0 (kq ≤ k) ∧ Drawn0 w wc)
  case first =>
    have H := HC2.out
    clear HC2
    have H' := Aside0.mk H
    clear H
    go_wp2
    go_meet
    case rel => exact ⟨_, H', ⟨by first | omega | exact Nat.le_refl _⟩, by repeat (first | exact Drawn0.refl _ | apply Drawn0.step)⟩
  case rest =>
    clear HC2
    try clear p2
    obtain ⟨kq, HA, HJ1, ⟨mc1, rfl⟩⟩ := hcut
    cases kq with
    | zero => exact absurd HA.out (by simp [damperref1_sign.j0])
    | succ kj1 =>
      have H := HA.out
      clear HA
      simp only [damperref1_sign.j0] at H
      by_cases c3 : a0 ≥ 97
      · rw [if_pos c3] at H
        have c3b0 : decide (97 ≤ a0) = true := decide_eq_true c3
        clear c3
        by_cases c4 : a0 ≤ 122
        · rw [if_pos c4] at H
          have c4b0 : decide (a0 ≤ 122) = true := decide_eq_true c4
          clear c4
          obtain rfl := Option.some.inj H
          go_wp2
          go_ret
          exact ⟨by first | rfl | (simp; done) | (simp [*]; done), by repeat (first | exact Drawn0.refl _ | apply Drawn0.step)⟩
        · rw [if_neg c4] at H
          have c4b0 : decide (a0 ≤ 122) = false := decide_eq_false c4
          clear c4
          by_cases c5 : a0 ≥ 48
          · rw [if_pos c5] at H
            have c5b0 : decide (48 ≤ a0) = true := decide_eq_true c5
            clear c5
            by_cases c6 : a0 ≤ 57
            · rw [if_pos c6] at H
              have c6b0 : decide (a0 ≤ 57) = true := decide_eq_true c6
              clear c6
              obtain rfl := Option.some.inj H
              go_wp2
              go_ret
              exact ⟨by first | rfl | (simp; done) | (simp [*]; done), by repeat (first | exact Drawn0.refl _ | apply Drawn0.step)⟩
            · rw [if_neg c6] at H
              have c6b0 : decide (a0 ≤ 57) = false := decide_eq_false c6
              clear c6
              obtain rfl := Option.some.inj H
              go_wp2
              go_ret
              exact ⟨by first | rfl | (simp; done) | (simp [*]; done), by repeat (first | exact Drawn0.refl _ | apply Drawn0.step)⟩
          · rw [if_neg c5] at H
            have c5b0 : decide (48 ≤ a0) = false := decide_eq_false c5
            clear c5
            obtain rfl := Option.some.inj H
            go_wp2
            go_ret
            exact ⟨by first | rfl | (simp; done) | (simp [*]; done), by repeat (first | exact Drawn0.refl _ | apply Drawn0.step)⟩
      · rw [if_neg c3] at H
        have c3b0 : decide (97 ≤ a0) = false := decide_eq_false c3
        clear c3
        by_cases c7 : a0 ≥ 48
        · rw [if_pos c7] at H
          have c7b0 : decide (48 ≤ a0) = true := decide_eq_true c7
          clear c7
          by_cases c8 : a0 ≤ 57
          · rw [if_pos c8] at H
            have c8b0 : decide (a0 ≤ 57) = true := decide_eq_true c8
            clear c8
            obtain rfl := Option.some.inj H
            go_wp2
            go_ret
            exact ⟨by first | rfl | (simp; done) | (simp [*]; done), by repeat (first | exact Drawn0.refl _ | apply Drawn0.step)⟩
          · rw [if_neg c8] at H
            have c8b0 : decide (a0 ≤ 57) = false := decide_eq_false c8
            clear c8
            obtain rfl := Option.some.inj H
            go_wp2
            go_ret
            exact ⟨by first | rfl | (simp; done) | (simp [*]; done), by repeat (first | exact Drawn0.refl _ | apply Drawn0.step)⟩
        · rw [if_neg c7] at H
          have c7b0 : decide (48 ≤ a0) = false := decide_eq_false c7
          clear c7
          obtain rfl := Option.some.inj H
          go_wp2
          go_ret
          exact ⟨by first | rfl | (simp; done) | (simp [*]; done), by repeat (first | exact Drawn0.refl _ | apply Drawn0.step)⟩

end Go.Proofs.YthdpnbfjpbiieaaDoor.Ma
