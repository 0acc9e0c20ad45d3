-- Written by a program of this session (wip/tools/myprint.py), in the form of the kit's print. Not trusted: Lean checks it.
import Derived.Test.YtalpoojepffldaaDoorMax0
import Derived.Test.YtalpoojepffldaaDoorMax21
import Derived.Test.YtalpoojepffldaaDoorMax22
namespace Go.Proofs.YtalpoojepffldaaDoor.Ma
open Go.RowKit Go.Proofs.YtalpoojepffldaaDoorW.PrintWords Go.Proofs.YtalpoojepffldaaDoorW.PrintLast Go.Proofs.YtalpoojepffldaaDoorW.PrintMore
attribute [local go_sem] max2_int min2_int max_two min_two max_three min_three max_four min_four   -- for this text's walks alone
set_option linter.unusedVariables false
set_option linter.unusedSimpArgs false

/-! ### damperlaw3_EventPieces: function 7 -/
mutual
def damperlaw3_EventPieces.l0 : Nat → List Int → List (List Int) → Int → Int → Option (Bool)
  | 0, _, _, _, _ => none
  | k + 1, x0, x3, x4, x5 => if x5 < (x3.length : Int) then (if (wrap64 ((x0.length : Int) - x4)) = 1 then (if x5 = (wrap64 ((x3.length : Int) - 1)) then (if 0 ≤ x5 then (if ((rd_L4 x3 x5).length : Int) = 1 then (if 0 < ((rd_L4 x3 x5).length : Int) then (if 0 ≤ x4 then (if x4 < (x0.length : Int) then (some ((rd (rd_L4 x3 x5) 0) == (rd x0 x4))) else (none)) else (none)) else (none)) else (some false)) else (none)) else (some false)) else (if (wrap64 ((x0.length : Int) - x4)) < 2 then (some false) else (if 0 ≤ x4 then (if x4 < (x0.length : Int) then (if 0 ≤ (wrap64 (x4 + 1)) then (if (wrap64 (x4 + 1)) < (x0.length : Int) then (damperlaw3_EventPieces.j1 k x0 x3 (wrap64 (x4 + 2)) x5 (mn (wrap64 ((wrap64 ((wrap64 (rd x0 x4)) * 256)) + (wrap64 (rd x0 (wrap64 (x4 + 1)))))) (wrap64 ((x0.length : Int) - (wrap64 (x4 + 2)))))) else (none)) else (none)) else (none)) else (none)))) else (some (x4 == (x0.length : Int)))
def damperlaw3_EventPieces.j1 : Nat → List Int → List (List Int) → Int → Int → Int → Option (Bool)
  | 0, _, _, _, _, _ => none
  | k + 1, x0, x3, x4, x5, x7 => if 0 ≤ x5 then (if x5 < (x3.length : Int) then (if ((rd_L4 x3 x5).length : Int) = x7 then (if 0 ≤ x4 then (if x4 ≤ (wrap64 (x4 + x7)) then (if (wrap64 (x4 + x7)) ≤ (x0.length : Int) then (if (strOfNums (rd_L4 x3 x5)).toList = (strOfNums ((x0.take ((wrap64 (x4 + x7)) : Int).toNat).drop (x4 : Int).toNat)).toList then (damperlaw3_EventPieces.l0 k x0 x3 (wrap64 (x4 + x7)) (wrap64 (x5 + 1))) else (some false)) else (none)) else (none)) else (none)) else (some false)) else (none)) else (none)
end
def damperlaw3_EventPieces.f (k : Nat) (l0 : List Int) : Option (Bool) := (damperlaw3_known.f).bind fun t466 => (if t466 = true then (if (l0.length : Int) > 400 then (some true) else ((some (([] : List Int) : List Int)).bind fun y467 => (if y467.length + l0.length < 140737488355328 then ((event_Cut.f (y467 ++ l0)).bind fun t473 => (damperlaw3_EventPieces.l0 k l0 t473 0 0)) else (none)))) else (some false))
theorem damperlaw3_EventPieces.mono_l : ∀ k, (∀ y0 y1 y2 y3, LeO (damperlaw3_EventPieces.l0 k y0 y1 y2 y3) (damperlaw3_EventPieces.l0 (k + 1) y0 y1 y2 y3)) ∧ (∀ y0 y1 y2 y3 y4, LeO (damperlaw3_EventPieces.j1 k y0 y1 y2 y3 y4) (damperlaw3_EventPieces.j1 (k + 1) y0 y1 y2 y3 y4))
  | 0 => ⟨fun _ _ _ _ r h => by simp [damperlaw3_EventPieces.l0] at h, fun _ _ _ _ _ r h => by simp [damperlaw3_EventPieces.j1] at h⟩
  | k + 1 => by
    obtain ⟨ih0, ih1⟩ := damperlaw3_EventPieces.mono_l k
    refine ⟨?_, ?_⟩
    · intro y0 y1 y2 y3
      unfold damperlaw3_EventPieces.l0
      repeat' first
      | (with_reducible exact ih0 _ _ _ _)
      | (with_reducible exact ih1 _ _ _ _ _)
      | (with_reducible exact LeO.refl _)
      | (with_reducible exact LeO.none _)
      | (with_reducible refine LeO.ite ?_ ?_)
      | (with_reducible refine LeO.bind ?_ (fun _ => ?_))
      | exact ih0 _ _ _ _
      | exact ih1 _ _ _ _ _
      | exact LeO.none _
      | refine LeO.ite ?_ ?_
      | refine LeO.bind ?_ (fun _ => ?_)
    · intro y0 y1 y2 y3 y4
      unfold damperlaw3_EventPieces.j1
      repeat' first
      | (with_reducible exact ih0 _ _ _ _)
      | (with_reducible exact ih1 _ _ _ _ _)
      | (with_reducible exact LeO.refl _)
      | (with_reducible exact LeO.none _)
      | (with_reducible refine LeO.ite ?_ ?_)
      | (with_reducible refine LeO.bind ?_ (fun _ => ?_))
      | exact ih0 _ _ _ _
      | exact ih1 _ _ _ _ _
      | exact LeO.none _
      | refine LeO.ite ?_ ?_
      | refine LeO.bind ?_ (fun _ => ?_)
theorem damperlaw3_EventPieces.mono : ∀ a0 k, LeO (damperlaw3_EventPieces.f k a0) (damperlaw3_EventPieces.f (k + 1) a0) := by
  intro a0 k
  obtain ⟨ih0, ih1⟩ := damperlaw3_EventPieces.mono_l k
  unfold damperlaw3_EventPieces.f
  repeat' first
      | (with_reducible exact ih0 _ _ _ _)
      | (with_reducible exact ih1 _ _ _ _ _)
      | (with_reducible exact LeO.refl _)
      | (with_reducible exact LeO.none _)
      | (with_reducible refine LeO.ite ?_ ?_)
      | (with_reducible refine LeO.bind ?_ (fun _ => ?_))
      | exact ih0 _ _ _ _
      | exact ih1 _ _ _ _ _
      | exact LeO.none _
      | refine LeO.ite ?_ ?_
      | refine LeO.bind ?_ (fun _ => ?_)
set_option maxHeartbeats 8000000 in
set_option maxRecDepth 100000 in
theorem damperlaw3_EventPieces.calls (k : Nat) (A0 : Option Addr) (c0 : Nat) (l0 : List Int) (r : Bool) (w : World) (hLd_ : Aside0 (LaidW w)) (hr0 : Kd.C (Kd.int .u8) w A0 l0.length l0) (hc0 : l0.length ≤ c0) (hr0_ : Aside0 (r = true)) (h : damperlaw3_EventPieces.f k l0 = some r) :
    Calls Tryd.prog 7 #[.slice A0 l0.length c0] w fun e w' => e = .returned (.bool r) ∧ Below w.heap.size w w' := by
  have HR0 := Aside0.mk hr0
  have HC0 := Aside0.mk hc0
  clear hr0 hc0
  have HB := Aside0.mk (Below.refl w.heap.size w)
  have H : ((damperlaw3_known.f).bind fun t466 => (if t466 = true then (if (l0.length : Int) > 400 then (some true) else ((some (([] : List Int) : List Int)).bind fun y467 => (if y467.length + l0.length < 140737488355328 then ((event_Cut.f (y467 ++ l0)).bind fun t473 => (damperlaw3_EventPieces.l0 k l0 t473 0 0)) else (none)))) else (some false))) = some r := h
  clear h
  replace H := Option.bind_eq_some_iff.mp H
  obtain ⟨t466, A20, H⟩ := H
  replace H : (if t466 = true then (if (l0.length : Int) > 400 then (some true) else ((some (([] : List Int) : List Int)).bind fun y467 => (if y467.length + l0.length < 140737488355328 then ((event_Cut.f (y467 ++ l0)).bind fun t473 => (damperlaw3_EventPieces.l0 k l0 t473 0 0)) else (none)))) else (some false)) = some r := H
  have A2 := Aside0.mk A20
  clear A20
  by_cases c3 : t466 = true
  · subst c3
    have H1 : (if (l0.length : Int) > 400 then (some true) else ((some (([] : List Int) : List Int)).bind fun y467 => (if y467.length + l0.length < 140737488355328 then ((event_Cut.f (y467 ++ l0)).bind fun t473 => (damperlaw3_EventPieces.l0 k l0 t473 0 0)) else (none)))) = some r := by rw [if_pos rfl] at H; exact H
    clear H
    have H := H1
    clear H1
    by_cases c4 : (l0.length : Int) > 400
    · rw [if_pos c4] at H
      have c4b0 : decide (400 < (l0.length : Int)) = true := decide_eq_true c4
      have c4b1 : decide (400 < l0.length) = true := decide_eq_true (by omega)
      clear c4
      obtain rfl := Option.some.inj H
      go_enter Tryd.func7, Tryd.ntmps7
      go_wp2_with (first | (go_at_call 12; (with_reducible refine (damperlaw3_known.calls  true _ ?side1 A2.out).mono ?_); (case side1 => first | exact hLd_.out | exact hLd_ | exact ⟨LaidW.below hLd_.out (by repeat (first | (with_reducible first | exact HB.out | apply below_alloc | apply pw_below_drewN | apply below_drew1) | exact HB.out))⟩ | exact ⟨LaidW.below hLd_.out (by repeat (first | exact Below.refl _ _ | apply below_alloc | apply pw_below_drewN | apply below_drew1))⟩); rintro e w5 ⟨rfl, hb⟩; have n0_ := Aside0.mk (below_step (by repeat (first | (with_reducible first | exact HB.out | apply below_alloc | apply pw_below_drewN | apply below_drew1) | exact HB.out)) hb); clear HB; have HB := n0_; clear n0_; (try clear hb); (try clear hb2); (try clear hk); (try clear hi)))
      repeat (go_quiet (first | (go_at_call 12; (with_reducible refine (damperlaw3_known.calls  true _ ?side1 A2.out).mono ?_); (case side1 => first | exact hLd_.out | exact hLd_ | exact ⟨LaidW.below hLd_.out (by repeat (first | (with_reducible first | exact HB.out | apply below_alloc | apply pw_below_drewN | apply below_drew1) | exact HB.out))⟩ | exact ⟨LaidW.below hLd_.out (by repeat (first | exact Below.refl _ _ | apply below_alloc | apply pw_below_drewN | apply below_drew1))⟩); rintro e w5 ⟨rfl, hb⟩; have n0_ := Aside0.mk (below_step (by repeat (first | (with_reducible first | exact HB.out | apply below_alloc | apply pw_below_drewN | apply below_drew1) | exact HB.out)) hb); clear HB; have HB := n0_; clear n0_; (try clear hb); (try clear hb2); (try clear hk); (try clear hi))); try go_wp2_with (first | (go_at_call 12; (with_reducible refine (damperlaw3_known.calls  true _ ?side1 A2.out).mono ?_); (case side1 => first | exact hLd_.out | exact hLd_ | exact ⟨LaidW.below hLd_.out (by repeat (first | (with_reducible first | exact HB.out | apply below_alloc | apply pw_below_drewN | apply below_drew1) | exact HB.out))⟩ | exact ⟨LaidW.below hLd_.out (by repeat (first | exact Below.refl _ _ | apply below_alloc | apply pw_below_drewN | apply below_drew1))⟩); rintro e w5 ⟨rfl, hb⟩; have n0_ := Aside0.mk (below_step (by repeat (first | (with_reducible first | exact HB.out | apply below_alloc | apply pw_below_drewN | apply below_drew1) | exact HB.out)) hb); clear HB; have HB := n0_; clear n0_; (try clear hb); (try clear hb2); (try clear hk); (try clear hi))))
      go_ret
      exact ⟨by first | rfl | (simp [errW_none, errW_some] <;> rfl) | (simp [*, errW_none, errW_some] <;> rfl), by repeat (first | (with_reducible first | exact HB.out | apply below_alloc | apply pw_below_drewN | apply below_drew1) | exact HB.out)⟩
    · rw [if_neg c4] at H
      have c4b0 : decide (400 < (l0.length : Int)) = false := decide_eq_false c4
      have c4b1 : decide (400 < l0.length) = false := decide_eq_false (by omega)
      clear c4
      obtain ⟨y467, hy467⟩ : ∃ y_ : List Int, y_ = (([] : List Int)) := ⟨_, rfl⟩
      replace H : (if y467.length + l0.length < 140737488355328 then ((event_Cut.f (y467 ++ l0)).bind fun t473 => (damperlaw3_EventPieces.l0 k l0 t473 0 0)) else (none)) = some r := by first | (rw [hy467]; with_reducible exact H) | (have H2_ := (Option.bind_some _ _).symm.trans H; rw [hy467]; with_reducible exact H2_) | (have H2_ := (Option.bind_some _ _).symm.trans H; with_reducible exact H2_) | with_reducible exact H | (rw [hy467]; exact H) | exact H
      have Ny467 := Aside0.mk hy467
      clear hy467
      by_cases c6 : y467.length + l0.length < 140737488355328
      rotate_left
      · rw [if_neg c6] at H
        exact absurd H (by simp)
      rw [if_pos c6] at H
      have LMc6 := Aside0.mk c6
      clear c6
      obtain ⟨y470, hy470⟩ : ∃ y_ : List Int, y_ = (y467 ++ l0) := ⟨_, rfl⟩
      replace H : ((event_Cut.f y470).bind fun t473 => (damperlaw3_EventPieces.l0 k l0 t473 0 0)) = some r := by first | (rw [hy470]; with_reducible exact H) | (have H2_ := (Option.bind_some _ _).symm.trans H; rw [hy470]; with_reducible exact H2_) | (have H2_ := (Option.bind_some _ _).symm.trans H; with_reducible exact H2_) | with_reducible exact H | (rw [hy470]; exact H) | exact H
      have Ny470 := Aside0.mk hy470
      clear hy470
      replace H := Option.bind_eq_some_iff.mp H
      obtain ⟨t473, A70, H⟩ := H
      replace H : (damperlaw3_EventPieces.l0 k l0 t473 0 0) = some r := H
      have A7 := Aside0.mk A70
      clear A70
      have H' := Aside0.mk H
      clear H
      go_enter Tryd.func7, Tryd.ntmps7
      go_wp2_with (first | (go_at_call 12; (with_reducible refine (damperlaw3_known.calls  true _ ?side1 A2.out).mono ?_); (case side1 => first | exact hLd_.out | exact hLd_ | exact ⟨LaidW.below hLd_.out (by repeat (first | (with_reducible first | exact HB.out | apply below_alloc | apply pw_below_drewN | apply below_drew1) | exact HB.out))⟩ | exact ⟨LaidW.below hLd_.out (by repeat (first | exact Below.refl _ _ | apply below_alloc | apply pw_below_drewN | apply below_drew1))⟩); rintro e w8 ⟨rfl, hb⟩; have n0_ := Aside0.mk (below_step (by repeat (first | (with_reducible first | exact HB.out | apply below_alloc | apply pw_below_drewN | apply below_drew1) | exact HB.out)) hb); clear HB; have HB := n0_; clear n0_; (try clear hb); (try clear hb2); (try clear hk); (try clear hi)) | ((with_reducible refine gate_dst (N := 13) rfl ?_); (try (refine gate_guard (by rfl) ?_; dsimp only)); refine Kd.R_lit (Kd.int .u8) _ 5 ?hg (N := 13) ?hd (xs := ([] : List Int)) (inner := []) (ok := fun _ => True) (okp := fun _ => True) ?hr ?hp (fun _ hk => hk) trivial (Below.refl _ _) (Nat.le_refl _) (by simp) ?_; (case hd => rfl); (case hg => rfl); (case hr => first | (go_simp; done) | (go_simp; rfl)); (case hp => exact (Reps.none _ _)); intro v468 w9 ho10 hb hg_ hnew_; clear hg_ hnew_; (first | rw [← Ny467.out] at ho10 | (simp only [Int.reduceToNat] at ho10; rw [← Ny467.out] at ho10)); have n0_ := Aside0.mk (Kd.R_lower ho10 (below_size (by repeat (first | (with_reducible first | exact HB.out | apply below_alloc | apply pw_below_drewN | apply below_drew1) | exact HB.out)))); have n1_ := Aside0.mk (below_step (by repeat (first | (with_reducible first | exact HB.out | apply below_alloc | apply pw_below_drewN | apply below_drew1) | exact HB.out)) hb); clear HB; have HO469 := n0_; have HB := n1_; clear n0_ n1_; clear hb ho10) | ((with_reducible refine gate_builtin (b := .append) (xs := #[.tmp 13, .tmp 14]) rfl ?_); (try (refine gate_guard (by rfl) ?_; dsimp only)); at_builtin; refine Kd.R_append_rows (Kd.int .u8) (w0 := w) w.heap.size rfl (.tmp 13) (.tmp 14) 41 5 (.int .u8 0) 1 rfl Tryd.underlying41 info5 rfl (by decide) (by omega) v468 y467 l0 _ _ _ (fun _ => True) (fun _ => False) rfl rfl ?aO ?aR (fun _ _ h => h) (fun _ h => h.elim) ?aF ?aB ?aS ?aL ?_; (case aR => repeat (first | exact (Kd.C_below HR0.out HB.out) | (with_reducible refine Kd.C_alloc ?_ _) | (with_reducible refine Kd.C_drewN ?_ _) | (with_reducible refine Kd.C_drew ?_))); (case aB => exact (by repeat (first | (with_reducible first | exact HB.out | apply below_alloc | apply pw_below_drewN | apply below_drew1) | exact HB.out))); (case aF => exact (fun _ _ => trivial)); (case aO => exact (by (with_reducible repeat (first | apply Kd.R_alloc | apply Kd.R_drewN | apply Kd.R_drew)); exact HO469.out)); (case aS => exact (below_size (by repeat (first | (with_reducible first | exact HB.out | apply below_alloc | apply pw_below_drewN | apply below_drew1) | exact HB.out)))); (case aL => have := LMc6.out; omega); intro v471 w11 ho hb hg hat; rw [← Ny470.out] at ho; have n0_ := Aside0.mk (hb); have n1_ := Aside0.mk (ho); clear HB; clear HO469; have HB := n0_; have HO472 := n1_; clear n0_ n1_; clear ho hb hg hat; obtain ⟨Ao12, co12, eo12⟩ := Kd.R_slice HO472.out; subst eo12) | (go_at_call 23; (with_reducible refine (event_Cut.calls _ _ y470 t473 _ ?side1 ?side2 A7.out).mono ?_); (case side1 => repeat (first | exact (Kd.R_reads' HO472.out).2.2 | (with_reducible refine Kd.C_alloc ?_ _) | (with_reducible refine Kd.C_drewN ?_ _) | (with_reducible refine Kd.C_drew ?_))); (case side2 => exact (Kd.R_reads' HO472.out).2.1); rintro e w13 ⟨v474, rfl, ho0, hb⟩; have n0_ := Aside0.mk (Kd.R_below (by (with_reducible repeat (first | apply Kd.R_alloc | apply Kd.R_drewN | apply Kd.R_drew)); exact HO472.out) hb); have n1_ := Aside0.mk (Kd.S_lower (Kd.S_new' ho0 (Kd.R_lt (by (with_reducible repeat (first | apply Kd.R_alloc | apply Kd.R_drewN | apply Kd.R_drew)); exact HO472.out))) (below_size (by repeat (first | (with_reducible first | exact HB.out | apply below_alloc | apply pw_below_drewN | apply below_drew1) | exact HB.out)))); have n2_ := Aside0.mk (below_step (by repeat (first | (with_reducible first | exact HB.out | apply below_alloc | apply pw_below_drewN | apply below_drew1) | exact HB.out)) hb); clear HO472; clear HB; have HO472 := n0_; have HO475 := n1_; have HB := n2_; clear n0_ n1_ n2_; (try clear hb); (try clear hb2); (try clear hk); (try clear hi); (try clear ho0)))
      repeat (go_quiet (first | (go_at_call 12; (with_reducible refine (damperlaw3_known.calls  true _ ?side1 A2.out).mono ?_); (case side1 => first | exact hLd_.out | exact hLd_ | exact ⟨LaidW.below hLd_.out (by repeat (first | (with_reducible first | exact HB.out | apply below_alloc | apply pw_below_drewN | apply below_drew1) | exact HB.out))⟩ | exact ⟨LaidW.below hLd_.out (by repeat (first | exact Below.refl _ _ | apply below_alloc | apply pw_below_drewN | apply below_drew1))⟩); rintro e w8 ⟨rfl, hb⟩; have n0_ := Aside0.mk (below_step (by repeat (first | (with_reducible first | exact HB.out | apply below_alloc | apply pw_below_drewN | apply below_drew1) | exact HB.out)) hb); clear HB; have HB := n0_; clear n0_; (try clear hb); (try clear hb2); (try clear hk); (try clear hi)) | ((with_reducible refine gate_dst (N := 13) rfl ?_); (try (refine gate_guard (by rfl) ?_; dsimp only)); refine Kd.R_lit (Kd.int .u8) _ 5 ?hg (N := 13) ?hd (xs := ([] : List Int)) (inner := []) (ok := fun _ => True) (okp := fun _ => True) ?hr ?hp (fun _ hk => hk) trivial (Below.refl _ _) (Nat.le_refl _) (by simp) ?_; (case hd => rfl); (case hg => rfl); (case hr => first | (go_simp; done) | (go_simp; rfl)); (case hp => exact (Reps.none _ _)); intro v468 w9 ho10 hb hg_ hnew_; clear hg_ hnew_; (first | rw [← Ny467.out] at ho10 | (simp only [Int.reduceToNat] at ho10; rw [← Ny467.out] at ho10)); have n0_ := Aside0.mk (Kd.R_lower ho10 (below_size (by repeat (first | (with_reducible first | exact HB.out | apply below_alloc | apply pw_below_drewN | apply below_drew1) | exact HB.out)))); have n1_ := Aside0.mk (below_step (by repeat (first | (with_reducible first | exact HB.out | apply below_alloc | apply pw_below_drewN | apply below_drew1) | exact HB.out)) hb); clear HB; have HO469 := n0_; have HB := n1_; clear n0_ n1_; clear hb ho10) | ((with_reducible refine gate_builtin (b := .append) (xs := #[.tmp 13, .tmp 14]) rfl ?_); (try (refine gate_guard (by rfl) ?_; dsimp only)); at_builtin; refine Kd.R_append_rows (Kd.int .u8) (w0 := w) w.heap.size rfl (.tmp 13) (.tmp 14) 41 5 (.int .u8 0) 1 rfl Tryd.underlying41 info5 rfl (by decide) (by omega) v468 y467 l0 _ _ _ (fun _ => True) (fun _ => False) rfl rfl ?aO ?aR (fun _ _ h => h) (fun _ h => h.elim) ?aF ?aB ?aS ?aL ?_; (case aR => repeat (first | exact (Kd.C_below HR0.out HB.out) | (with_reducible refine Kd.C_alloc ?_ _) | (with_reducible refine Kd.C_drewN ?_ _) | (with_reducible refine Kd.C_drew ?_))); (case aB => exact (by repeat (first | (with_reducible first | exact HB.out | apply below_alloc | apply pw_below_drewN | apply below_drew1) | exact HB.out))); (case aF => exact (fun _ _ => trivial)); (case aO => exact (by (with_reducible repeat (first | apply Kd.R_alloc | apply Kd.R_drewN | apply Kd.R_drew)); exact HO469.out)); (case aS => exact (below_size (by repeat (first | (with_reducible first | exact HB.out | apply below_alloc | apply pw_below_drewN | apply below_drew1) | exact HB.out)))); (case aL => have := LMc6.out; omega); intro v471 w11 ho hb hg hat; rw [← Ny470.out] at ho; have n0_ := Aside0.mk (hb); have n1_ := Aside0.mk (ho); clear HB; clear HO469; have HB := n0_; have HO472 := n1_; clear n0_ n1_; clear ho hb hg hat; obtain ⟨Ao12, co12, eo12⟩ := Kd.R_slice HO472.out; subst eo12) | (go_at_call 23; (with_reducible refine (event_Cut.calls _ _ y470 t473 _ ?side1 ?side2 A7.out).mono ?_); (case side1 => repeat (first | exact (Kd.R_reads' HO472.out).2.2 | (with_reducible refine Kd.C_alloc ?_ _) | (with_reducible refine Kd.C_drewN ?_ _) | (with_reducible refine Kd.C_drew ?_))); (case side2 => exact (Kd.R_reads' HO472.out).2.1); rintro e w13 ⟨v474, rfl, ho0, hb⟩; have n0_ := Aside0.mk (Kd.R_below (by (with_reducible repeat (first | apply Kd.R_alloc | apply Kd.R_drewN | apply Kd.R_drew)); exact HO472.out) hb); have n1_ := Aside0.mk (Kd.S_lower (Kd.S_new' ho0 (Kd.R_lt (by (with_reducible repeat (first | apply Kd.R_alloc | apply Kd.R_drewN | apply Kd.R_drew)); exact HO472.out))) (below_size (by repeat (first | (with_reducible first | exact HB.out | apply below_alloc | apply pw_below_drewN | apply below_drew1) | exact HB.out)))); have n2_ := Aside0.mk (below_step (by repeat (first | (with_reducible first | exact HB.out | apply below_alloc | apply pw_below_drewN | apply below_drew1) | exact HB.out)) hb); clear HO472; clear HB; have HO472 := n0_; have HO475 := n1_; have HB := n2_; clear n0_ n1_ n2_; (try clear hb); (try clear hb2); (try clear hk); (try clear hi); (try clear ho0))); try go_wp2_with (first | (go_at_call 12; (with_reducible refine (damperlaw3_known.calls  true _ ?side1 A2.out).mono ?_); (case side1 => first | exact hLd_.out | exact hLd_ | exact ⟨LaidW.below hLd_.out (by repeat (first | (with_reducible first | exact HB.out | apply below_alloc | apply pw_below_drewN | apply below_drew1) | exact HB.out))⟩ | exact ⟨LaidW.below hLd_.out (by repeat (first | exact Below.refl _ _ | apply below_alloc | apply pw_below_drewN | apply below_drew1))⟩); rintro e w8 ⟨rfl, hb⟩; have n0_ := Aside0.mk (below_step (by repeat (first | (with_reducible first | exact HB.out | apply below_alloc | apply pw_below_drewN | apply below_drew1) | exact HB.out)) hb); clear HB; have HB := n0_; clear n0_; (try clear hb); (try clear hb2); (try clear hk); (try clear hi)) | ((with_reducible refine gate_dst (N := 13) rfl ?_); (try (refine gate_guard (by rfl) ?_; dsimp only)); refine Kd.R_lit (Kd.int .u8) _ 5 ?hg (N := 13) ?hd (xs := ([] : List Int)) (inner := []) (ok := fun _ => True) (okp := fun _ => True) ?hr ?hp (fun _ hk => hk) trivial (Below.refl _ _) (Nat.le_refl _) (by simp) ?_; (case hd => rfl); (case hg => rfl); (case hr => first | (go_simp; done) | (go_simp; rfl)); (case hp => exact (Reps.none _ _)); intro v468 w9 ho10 hb hg_ hnew_; clear hg_ hnew_; (first | rw [← Ny467.out] at ho10 | (simp only [Int.reduceToNat] at ho10; rw [← Ny467.out] at ho10)); have n0_ := Aside0.mk (Kd.R_lower ho10 (below_size (by repeat (first | (with_reducible first | exact HB.out | apply below_alloc | apply pw_below_drewN | apply below_drew1) | exact HB.out)))); have n1_ := Aside0.mk (below_step (by repeat (first | (with_reducible first | exact HB.out | apply below_alloc | apply pw_below_drewN | apply below_drew1) | exact HB.out)) hb); clear HB; have HO469 := n0_; have HB := n1_; clear n0_ n1_; clear hb ho10) | ((with_reducible refine gate_builtin (b := .append) (xs := #[.tmp 13, .tmp 14]) rfl ?_); (try (refine gate_guard (by rfl) ?_; dsimp only)); at_builtin; refine Kd.R_append_rows (Kd.int .u8) (w0 := w) w.heap.size rfl (.tmp 13) (.tmp 14) 41 5 (.int .u8 0) 1 rfl Tryd.underlying41 info5 rfl (by decide) (by omega) v468 y467 l0 _ _ _ (fun _ => True) (fun _ => False) rfl rfl ?aO ?aR (fun _ _ h => h) (fun _ h => h.elim) ?aF ?aB ?aS ?aL ?_; (case aR => repeat (first | exact (Kd.C_below HR0.out HB.out) | (with_reducible refine Kd.C_alloc ?_ _) | (with_reducible refine Kd.C_drewN ?_ _) | (with_reducible refine Kd.C_drew ?_))); (case aB => exact (by repeat (first | (with_reducible first | exact HB.out | apply below_alloc | apply pw_below_drewN | apply below_drew1) | exact HB.out))); (case aF => exact (fun _ _ => trivial)); (case aO => exact (by (with_reducible repeat (first | apply Kd.R_alloc | apply Kd.R_drewN | apply Kd.R_drew)); exact HO469.out)); (case aS => exact (below_size (by repeat (first | (with_reducible first | exact HB.out | apply below_alloc | apply pw_below_drewN | apply below_drew1) | exact HB.out)))); (case aL => have := LMc6.out; omega); intro v471 w11 ho hb hg hat; rw [← Ny470.out] at ho; have n0_ := Aside0.mk (hb); have n1_ := Aside0.mk (ho); clear HB; clear HO469; have HB := n0_; have HO472 := n1_; clear n0_ n1_; clear ho hb hg hat; obtain ⟨Ao12, co12, eo12⟩ := Kd.R_slice HO472.out; subst eo12) | (go_at_call 23; (with_reducible refine (event_Cut.calls _ _ y470 t473 _ ?side1 ?side2 A7.out).mono ?_); (case side1 => repeat (first | exact (Kd.R_reads' HO472.out).2.2 | (with_reducible refine Kd.C_alloc ?_ _) | (with_reducible refine Kd.C_drewN ?_ _) | (with_reducible refine Kd.C_drew ?_))); (case side2 => exact (Kd.R_reads' HO472.out).2.1); rintro e w13 ⟨v474, rfl, ho0, hb⟩; have n0_ := Aside0.mk (Kd.R_below (by (with_reducible repeat (first | apply Kd.R_alloc | apply Kd.R_drewN | apply Kd.R_drew)); exact HO472.out) hb); have n1_ := Aside0.mk (Kd.S_lower (Kd.S_new' ho0 (Kd.R_lt (by (with_reducible repeat (first | apply Kd.R_alloc | apply Kd.R_drewN | apply Kd.R_drew)); exact HO472.out))) (below_size (by repeat (first | (with_reducible first | exact HB.out | apply below_alloc | apply pw_below_drewN | apply below_drew1) | exact HB.out)))); have n2_ := Aside0.mk (below_step (by repeat (first | (with_reducible first | exact HB.out | apply below_alloc | apply pw_below_drewN | apply below_drew1) | exact HB.out)) hb); clear HO472; clear HB; have HO472 := n0_; have HO475 := n1_; have HB := n2_; clear n0_ n1_ n2_; (try clear hb); (try clear hb2); (try clear hk); (try clear hi); (try clear ho0))))
      go_loopg [4, 5] k (fun kq v4 v5 w' => ∃ (x4_1 : Int) (x5_1 : Int), v4 = .int .i64 x4_1 ∧ v5 = .int .i64 x5_1 ∧ Aside0 (damperlaw3_EventPieces.l0 kq l0 t473 x4_1 x5_1 = some r) ∧ Aside0 (kq ≤ k) ∧ Aside0 (Kd.S (Kd.slice 5 (Kd.int .u8)) 41 w' w.heap.size (fun _ => True) v474 t473) ∧ Aside0 (Below w.heap.size w w'))
      case atStart => exact ⟨(0), (0), (by first | rfl | (simp; done) | (simp [*]; done)), (by first | rfl | (simp; done) | (simp [*]; done)), H', ⟨Nat.le_refl _⟩, ⟨by (with_reducible repeat (first | apply Kd.S_alloc | apply Kd.S_drewN | apply Kd.S_drew)); exact Kd.S_mono HO475.out (fun _ hk => trivial)⟩, ⟨by repeat (first | (with_reducible first | exact HB.out | apply below_alloc | apply pw_below_drewN | apply below_drew1) | exact HB.out)⟩⟩
      case round =>
        clear H'
        try clear p2
        try clear c3
        try clear c4
        try clear c4b0
        try clear c4b1
        try clear c6
        try clear c7
        obtain ⟨x4_1, x5_1, rfl, rfl, HA, HK1, HO_3, HB⟩ := hrel
        cases gk with
        | zero => exact absurd HA.out (by simp [damperlaw3_EventPieces.l0])
        | succ k1 =>
          have H := HA.out
          clear HA
          simp only [damperlaw3_EventPieces.l0] at H
          by_cases c14 : x5_1 < (t473.length : Int)
          · rw [if_pos c14] at H
            have c14b0 : decide (x5_1 < (t473.length : Int)) = true := decide_eq_true c14
            clear c14
            by_cases c15 : (wrap64 ((l0.length : Int) - x4_1)) = 1
            · rw [if_pos c15] at H
              have c15b0 : ((wrap64 ((l0.length : Int) - x4_1)) == 1) = true := beq_iff_eq.mpr c15
              have c15b1 : ((wrap64 ((l0.length : Int) - x4_1)) != 1) = false := bne_eq_false_iff_eq.mpr c15
              clear c15
              by_cases c16 : x5_1 = (wrap64 ((t473.length : Int) - 1))
              rotate_left
              · rw [if_neg c16] at H
                have c16b0 : (x5_1 == (wrap64 ((t473.length : Int) - 1))) = false := beq_eq_false_iff_ne.mpr c16
                have c16b1 : (x5_1 != (wrap64 ((t473.length : Int) - 1))) = true := bne_iff_ne.mpr c16
                exact absurd (Option.some.inj H) (by rw [hr0_.out]; decide)
              rw [if_pos c16] at H
              have c16b0 : (x5_1 == (wrap64 ((t473.length : Int) - 1))) = true := beq_iff_eq.mpr c16
              have c16b1 : (x5_1 != (wrap64 ((t473.length : Int) - 1))) = false := bne_eq_false_iff_eq.mpr c16
              clear c16
              by_cases c17 : 0 ≤ x5_1
              rotate_left
              · rw [if_neg c17] at H
                exact absurd H (by simp)
              rw [if_pos c17] at H
              have c17b0 : decide (0 ≤ x5_1) = true := decide_eq_true c17
              clear c17
              by_cases c18 : ((rd_L4 t473 x5_1).length : Int) = 1
              rotate_left
              · rw [if_neg c18] at H
                have c18b0 : (((rd_L4 t473 x5_1).length : Int) == 1) = false := beq_eq_false_iff_ne.mpr c18
                have c18b1 : (((rd_L4 t473 x5_1).length : Int) != 1) = true := bne_iff_ne.mpr c18
                exact absurd (Option.some.inj H) (by rw [hr0_.out]; decide)
              rw [if_pos c18] at H
              have c18b0 : (((rd_L4 t473 x5_1).length : Int) == 1) = true := beq_iff_eq.mpr c18
              have c18b1 : (((rd_L4 t473 x5_1).length : Int) != 1) = false := bne_eq_false_iff_eq.mpr c18
              clear c18
              by_cases c19 : 0 < ((rd_L4 t473 x5_1).length : Int)
              rotate_left
              · rw [if_neg c19] at H
                exact absurd H (by simp)
              rw [if_pos c19] at H
              have c19b0 : decide (0 < ((rd_L4 t473 x5_1).length : Int)) = true := decide_eq_true c19
              have c19b1 : decide (0 < (rd_L4 t473 x5_1).length) = true := decide_eq_true (by omega)
              clear c19
              by_cases c20 : 0 ≤ x4_1
              rotate_left
              · rw [if_neg c20] at H
                exact absurd H (by simp)
              rw [if_pos c20] at H
              have c20b0 : decide (0 ≤ x4_1) = true := decide_eq_true c20
              clear c20
              by_cases c21 : x4_1 < (l0.length : Int)
              rotate_left
              · rw [if_neg c21] at H
                exact absurd H (by simp)
              rw [if_pos c21] at H
              have c21b0 : decide (x4_1 < (l0.length : Int)) = true := decide_eq_true c21
              clear c21
              obtain rfl := Option.some.inj H
              obtain ⟨Ao22, co22, eo22⟩ := Kd.S_slice HO_3.out
              subst eo22
              have p476 : 0 ≤ (x5_1 : Int) := of_decide_eq_true (by first | (with_reducible assumption) | assumption)
              have q476 : x5_1 < (t473.length : Int) := of_decide_eq_true (by first | (with_reducible assumption) | assumption)
              obtain ⟨ad476, A476_0, c476_0, e476, hx476_0, hl476_0, hi476_0⟩ := at_L4 (Kd.S_reads' HO_3.out).2.2 x5_1 p476 q476
              cases e476
              obtain ⟨ce476, hce476, hMe476, hcc476⟩ := Kd.S_get HO_3.out [] x5_1 p476 (by first | exact q476 | exact of_decide_eq_true (by first | (with_reducible assumption) | assumption) | (have e_ := (Kd.S_reads' HO_3.out).1; omega))
              obtain ⟨ve476_0, rfl, ge476_0⟩ := hMe476
              have hv476_0 := hcc476 0 _ rfl
              rw [Nat.add_zero, show ((Kd.slice 5 (Kd.int .u8))).sz = 1 from rfl, Nat.mul_one] at hv476_0
              replace hv476_0 := Option.some.inj (hv476_0.symm.trans hx476_0)
              rw [hv476_0] at ge476_0
              have HL476_0 := Aside0.mk (show Kd.R (Kd.int .u8) 5 _ _ _ _ (rd_L4 t473 x5_1) from ge476_0)
              clear hv476_0 ge476_0
              clear hcc476 hce476
              have HR476_0 := Aside0.mk hi476_0
              have HC476_0 := Aside0.mk hl476_0
              clear hi476_0 hl476_0
              replace p476 := eq_true p476
              replace q476 := eq_true q476
              have p477 : 0 ≤ (x5_1 : Int) := of_decide_eq_true (by first | (with_reducible assumption) | assumption)
              have q477 : x5_1 < (t473.length : Int) := of_decide_eq_true (by first | (with_reducible assumption) | assumption)
              obtain ⟨ad477, A477_0, c477_0, e477, hx477_0, hl477_0, hi477_0⟩ := at_L4 (Kd.S_reads' HO_3.out).2.2 x5_1 p477 q477
              obtain rfl : ad476 = ad477 := (by injection e477)
              obtain ⟨ce477, hce477, hMe477, hcc477⟩ := Kd.S_get HO_3.out [] x5_1 p477 (by first | exact q477 | exact of_decide_eq_true (by first | (with_reducible assumption) | assumption) | (have e_ := (Kd.S_reads' HO_3.out).1; omega))
              obtain ⟨ve477_0, rfl, ge477_0⟩ := hMe477
              have hv477_0 := hcc477 0 _ rfl
              rw [Nat.add_zero, show ((Kd.slice 5 (Kd.int .u8))).sz = 1 from rfl, Nat.mul_one] at hv477_0
              replace hv477_0 := Option.some.inj (hv477_0.symm.trans hx477_0)
              rw [hv477_0] at ge477_0
              have HL477_0 := Aside0.mk (show Kd.R (Kd.int .u8) 5 _ _ _ _ (rd_L4 t473 x5_1) from ge477_0)
              clear hv477_0 ge477_0
              clear hcc477 hce477
              have HR477_0 := Aside0.mk hi477_0
              have HC477_0 := Aside0.mk hl477_0
              clear hi477_0 hl477_0
              replace p477 := eq_true p477
              replace q477 := eq_true q477
              have ea_ := Option.some.inj (hx476_0.symm.trans hx477_0)
              injection ea_ with ea_ en_ ec_
              subst ea_
              subst ec_
              clear en_
              have p478 : 0 ≤ (0 : Int) := (by omega)
              have q478 : 0 < ((rd_L4 t473 x5_1).length : Int) := of_decide_eq_true (by first | (with_reducible assumption) | assumption)
              obtain ⟨ad478, e478, hx478_0⟩ := Kd.at_int (by repeat (first | (with_reducible exact HR477_0.out) | (with_reducible refine Kd.C_alloc ?_ _) | (with_reducible refine Kd.C_drewN ?_ _) | (with_reducible refine Kd.C_drew ?_) | exact HR477_0.out)) 0 p478 q478
              cases e478
              have qi478 : (0 < (rd_L4 t473 x5_1).length) = True := eq_true (by omega)
              (try rw [show ((0 : Int)).toNat = 0 from rfl] at hx478_0)
              (try rw [Addr.add_zero'] at hx478_0)
              replace p478 := eq_true p478
              replace q478 := eq_true q478
              have p479 : 0 ≤ (x4_1 : Int) := of_decide_eq_true (by first | (with_reducible assumption) | assumption)
              have q479 : x4_1 < (l0.length : Int) := of_decide_eq_true (by first | (with_reducible assumption) | assumption)
              obtain ⟨ad479, e479, hx479_0⟩ := Kd.at_int HR0.out x4_1 p479 q479
              cases e479
              replace hx479_0 := (HB.out.cell (World.block_lt_of_cell? w _ hx479_0)).trans hx479_0
              replace p479 := eq_true p479
              replace q479 := eq_true q479
              go_wp2
              repeat (go_quiet (fail); try go_wp2)
              go_ret
              exact ⟨by first | rfl | (simp [errW_none, errW_some] <;> rfl) | (simp [*, errW_none, errW_some] <;> rfl), by repeat (first | (with_reducible first | exact HB.out | apply below_alloc | apply pw_below_drewN | apply below_drew1) | exact HB.out)⟩
            · rw [if_neg c15] at H
              have c15b0 : ((wrap64 ((l0.length : Int) - x4_1)) == 1) = false := beq_eq_false_iff_ne.mpr c15
              have c15b1 : ((wrap64 ((l0.length : Int) - x4_1)) != 1) = true := bne_iff_ne.mpr c15
              by_cases c23 : (wrap64 ((l0.length : Int) - x4_1)) < 2
              · rw [if_pos c23] at H
                have c23b0 : decide ((wrap64 ((l0.length : Int) - x4_1)) < 2) = true := decide_eq_true c23
                clear c23
                exact absurd (Option.some.inj H) (by rw [hr0_.out]; decide)
              rw [if_neg c23] at H
              have c23b0 : decide ((wrap64 ((l0.length : Int) - x4_1)) < 2) = false := decide_eq_false c23
              clear c23
              by_cases c24 : 0 ≤ x4_1
              rotate_left
              · rw [if_neg c24] at H
                exact absurd H (by simp)
              rw [if_pos c24] at H
              have c24b0 : decide (0 ≤ x4_1) = true := decide_eq_true c24
              clear c24
              by_cases c25 : x4_1 < (l0.length : Int)
              rotate_left
              · rw [if_neg c25] at H
                exact absurd H (by simp)
              rw [if_pos c25] at H
              have c25b0 : decide (x4_1 < (l0.length : Int)) = true := decide_eq_true c25
              clear c25
              obtain ⟨ji26, hji26⟩ : ∃ j_ : Int, (wrap64 (x4_1 + 1)) = j_ := ⟨_, rfl⟩
              replace H : (if 0 ≤ (ji26) then (if (ji26) < (l0.length : Int) then (damperlaw3_EventPieces.j1 k1 l0 t473 (wrap64 (x4_1 + 2)) x5_1 (mn (wrap64 ((wrap64 ((wrap64 (rd l0 x4_1)) * 256)) + (wrap64 (rd l0 (ji26))))) (wrap64 ((l0.length : Int) - (wrap64 (x4_1 + 2)))))) else (none)) else (none)) = some r := by first | (rw [hji26] at H; exact H) | (simp only [hji26] at H ⊢; exact H)
              have hji26w : (IntKind.i64.wrap (x4_1 + 1)) = ji26 := (i64_w _).trans hji26
              by_cases c27 : 0 ≤ (ji26)
              rotate_left
              · rw [if_neg c27] at H
                exact absurd H (by simp)
              rw [if_pos c27] at H
              have c27b0 : decide (0 ≤ (ji26)) = true := decide_eq_true c27
              clear c27
              by_cases c28 : (ji26) < (l0.length : Int)
              rotate_left
              · rw [if_neg c28] at H
                exact absurd H (by simp)
              rw [if_pos c28] at H
              have c28b0 : decide ((ji26) < (l0.length : Int)) = true := decide_eq_true c28
              clear c28
              have HC29 := Aside0.mk H
              clear H
              obtain ⟨Ao30, co30, eo30⟩ := Kd.S_slice HO_3.out
              subst eo30
              have p480 : 0 ≤ (x4_1 : Int) := of_decide_eq_true (by first | (with_reducible assumption) | assumption)
              have q480 : x4_1 < (l0.length : Int) := of_decide_eq_true (by first | (with_reducible assumption) | assumption)
              obtain ⟨ad480, e480, hx480_0⟩ := Kd.at_int HR0.out x4_1 p480 q480
              cases e480
              replace hx480_0 := (HB.out.cell (World.block_lt_of_cell? w _ hx480_0)).trans hx480_0
              replace p480 := eq_true p480
              replace q480 := eq_true q480
              have p481 : 0 ≤ ((ji26) : Int) := of_decide_eq_true (by first | (with_reducible assumption) | assumption)
              have q481 : (ji26) < (l0.length : Int) := of_decide_eq_true (by first | (with_reducible assumption) | assumption)
              obtain ⟨ad481, e481, hx481_0⟩ := Kd.at_int HR0.out (ji26) p481 q481
              obtain rfl : ad480 = ad481 := (by injection e481)
              replace hx481_0 := (HB.out.cell (World.block_lt_of_cell? w _ hx481_0)).trans hx481_0
              replace p481 := eq_true p481
              replace q481 := eq_true q481
              go_upto_region 16 with (fail)
              repeat (go_quiet (fail); go_upto_region 16 with (fail))
              go_cut [7] (fun v7 wc => ∃ (kq : Nat) (x7_28 : Int), v7 = .int .i64 x7_28 ∧ Aside0 (damperlaw3_EventPieces.j1 kq l0 t473 (wrap64 (x4_1 + 2)) x5_1 x7_28 = some r) ∧ Aside0 (kq ≤ k1) ∧ Aside0 (Kd.S (Kd.slice 5 (Kd.int .u8)) 41 wc w.heap.size (fun _ => True) (.slice Ao30 t473.length co30) t473) ∧ Aside0 (Below w.heap.size w wc))
              case first =>
                have H := HC29.out
                clear HC29
                obtain ⟨ji31, hji31⟩ : ∃ j_ : Int, (mn (wrap64 ((wrap64 ((wrap64 (rd l0 x4_1)) * 256)) + (wrap64 (rd l0 (ji26))))) (wrap64 ((l0.length : Int) - (wrap64 (x4_1 + 2))))) = j_ := ⟨_, rfl⟩
                replace H : (damperlaw3_EventPieces.j1 k1 l0 t473 (wrap64 (x4_1 + 2)) x5_1 ji31) = some r := by first | (rw [hji31] at H; exact H) | (simp only [hji31] at H ⊢; exact H)
                have hji31_ : (if (wrap64 ((l0.length : Int) - (wrap64 (x4_1 + 2)))) < (wrap64 ((wrap64 ((wrap64 (rd l0 x4_1)) * 256)) + (wrap64 (rd l0 (ji26))))) then (wrap64 ((l0.length : Int) - (wrap64 (x4_1 + 2)))) else (wrap64 ((wrap64 ((wrap64 (rd l0 x4_1)) * 256)) + (wrap64 (rd l0 (ji26)))))) = ji31 := hji31
                have H' := Aside0.mk H
                clear H
                go_wp2
                repeat (go_quiet (fail); try go_wp2)
                go_meet
                case rel => exact ⟨_, (ji31), (by first | rfl | (simp; done) | (simp only [← hji31] <;> (first | rfl | simp)) | (simp [*]; done)), H', ⟨by have := HK1.out; first | omega | exact Nat.le_refl _⟩, ⟨by (with_reducible repeat (first | apply Kd.S_alloc | apply Kd.S_drewN | apply Kd.S_drew)); exact HO_3.out⟩, ⟨by repeat (first | (with_reducible first | exact HB.out | apply below_alloc | apply pw_below_drewN | apply below_drew1) | exact HB.out)⟩⟩
              case rest =>
                clear HC29
                try clear c1
                try clear c2
                try clear p2
                try clear c3
                try clear c4
                try clear c4b0
                try clear c4b1
                try clear p4
                try clear q4
                try clear hx4
                try clear qi4
                try clear c6
                try clear p6
                try clear c7
                try clear c14
                try clear c14b0
                try clear c15
                try clear c15b0
                try clear c15b1
                try clear c16
                try clear c16b0
                try clear c16b1
                try clear c17
                try clear c17b0
                try clear c18
                try clear c18b0
                try clear c18b1
                try clear c19
                try clear c19b0
                try clear c19b1
                try clear c20
                try clear c20b0
                try clear c21
                try clear c21b0
                try clear c23
                try clear c23b0
                try clear c24
                try clear c24b0
                try clear c25
                try clear c25b0
                try clear c27
                try clear c27b0
                try clear c28
                try clear c28b0
                try clear hx476_0
                try clear hx477_0
                try clear hx478_0
                try clear hx479_0
                try clear hx480_0
                try clear hx481_0
                try clear p2
                try clear p476
                try clear p477
                try clear p478
                try clear p479
                try clear p480
                try clear p481
                try clear q476
                try clear q477
                try clear q478
                try clear q479
                try clear q480
                try clear q481
                obtain ⟨kq, x7_28, rfl, HA, HJ28, HO_3, HB⟩ := hcut
                cases kq with
                | zero => exact absurd HA.out (by simp [damperlaw3_EventPieces.j1])
                | succ kj28 =>
                  have H := HA.out
                  clear HA
                  simp only [damperlaw3_EventPieces.j1] at H
                  by_cases c32 : 0 ≤ x5_1
                  rotate_left
                  · rw [if_neg c32] at H
                    exact absurd H (by simp)
                  rw [if_pos c32] at H
                  have c32b0 : decide (0 ≤ x5_1) = true := decide_eq_true c32
                  clear c32
                  by_cases c33 : x5_1 < (t473.length : Int)
                  rotate_left
                  · rw [if_neg c33] at H
                    exact absurd H (by simp)
                  rw [if_pos c33] at H
                  have c33b0 : decide (x5_1 < (t473.length : Int)) = true := decide_eq_true c33
                  clear c33
                  by_cases c34 : ((rd_L4 t473 x5_1).length : Int) = x7_28
                  rotate_left
                  · rw [if_neg c34] at H
                    have c34b0 : (((rd_L4 t473 x5_1).length : Int) == x7_28) = false := beq_eq_false_iff_ne.mpr c34
                    have c34b1 : (((rd_L4 t473 x5_1).length : Int) != x7_28) = true := bne_iff_ne.mpr c34
                    exact absurd (Option.some.inj H) (by rw [hr0_.out]; decide)
                  rw [if_pos c34] at H
                  have c34b0 : (((rd_L4 t473 x5_1).length : Int) == x7_28) = true := beq_iff_eq.mpr c34
                  have c34b1 : (((rd_L4 t473 x5_1).length : Int) != x7_28) = false := bne_eq_false_iff_eq.mpr c34
                  clear c34
                  obtain ⟨ji35, hji35⟩ : ∃ j_ : Int, (wrap64 (x4_1 + 2)) = j_ := ⟨_, rfl⟩
                  replace H : (if 0 ≤ (ji35) then (if (ji35) ≤ (wrap64 ((ji35) + x7_28)) then (if (wrap64 ((ji35) + x7_28)) ≤ (l0.length : Int) then (if (strOfNums (rd_L4 t473 x5_1)).toList = (strOfNums ((l0.take ((wrap64 ((ji35) + x7_28)) : Int).toNat).drop ((ji35) : Int).toNat)).toList then (damperlaw3_EventPieces.l0 kj28 l0 t473 (wrap64 ((ji35) + x7_28)) (wrap64 (x5_1 + 1))) else (some false)) else (none)) else (none)) else (none)) = some r := by first | (rw [hji35] at H; exact H) | (simp only [hji35] at H ⊢; exact H)
                  have hji35w : (IntKind.i64.wrap (x4_1 + 2)) = ji35 := (i64_w _).trans hji35
                  by_cases c36 : 0 ≤ (ji35)
                  rotate_left
                  · rw [if_neg c36] at H
                    exact absurd H (by simp)
                  rw [if_pos c36] at H
                  have c36b0 := eq_true c36
                  have c36b1 : decide (0 ≤ (ji35)) = true := decide_eq_true c36
                  try have c36bm : max (ji35) 0 = (ji35) := Int.max_eq_left c36
                  clear c36
                  by_cases c37 : (ji35) ≤ (wrap64 ((ji35) + x7_28))
                  rotate_left
                  · rw [if_neg c37] at H
                    exact absurd H (by simp)
                  rw [if_pos c37] at H
                  have c37b0 := eq_true c37
                  have c37b1 : decide ((ji35) ≤ (wrap64 ((ji35) + x7_28))) = true := decide_eq_true c37
                  by_cases c38 : (wrap64 ((ji35) + x7_28)) ≤ (l0.length : Int)
                  rotate_left
                  · rw [if_neg c38] at H
                    exact absurd H (by simp)
                  rw [if_pos c38] at H
                  have c38b0 := eq_true c38
                  have c38b1 : decide ((wrap64 ((ji35) + x7_28)) ≤ (l0.length : Int)) = true := decide_eq_true c38
                  by_cases c39 : (strOfNums (rd_L4 t473 x5_1)).toList = (strOfNums ((l0.take ((wrap64 ((ji35) + x7_28)) : Int).toNat).drop ((ji35) : Int).toNat)).toList
                  rotate_left
                  · rw [if_neg c39] at H
                    have c39b0 : ((strOfNums (rd_L4 t473 x5_1)).toList == (strOfNums ((l0.take ((wrap64 ((ji35) + x7_28)) : Int).toNat).drop ((ji35) : Int).toNat)).toList) = false := beq_eq_false_iff_ne.mpr c39
                    have c39b1 : ((strOfNums (rd_L4 t473 x5_1)).toList != (strOfNums ((l0.take ((wrap64 ((ji35) + x7_28)) : Int).toNat).drop ((ji35) : Int).toNat)).toList) = true := bne_iff_ne.mpr c39
                    exact absurd (Option.some.inj H) (by rw [hr0_.out]; decide)
                  rw [if_pos c39] at H
                  have c39b0 : ((strOfNums (rd_L4 t473 x5_1)).toList == (strOfNums ((l0.take ((wrap64 ((ji35) + x7_28)) : Int).toNat).drop ((ji35) : Int).toNat)).toList) = true := beq_iff_eq.mpr c39
                  have c39b1 : ((strOfNums (rd_L4 t473 x5_1)).toList != (strOfNums ((l0.take ((wrap64 ((ji35) + x7_28)) : Int).toNat).drop ((ji35) : Int).toNat)).toList) = false := bne_eq_false_iff_eq.mpr c39
                  clear c39
                  have H' := Aside0.mk H
                  clear H
                  have p482 : 0 ≤ (x5_1 : Int) := of_decide_eq_true (by first | (with_reducible assumption) | assumption)
                  have q482 : x5_1 < (t473.length : Int) := of_decide_eq_true (by first | (with_reducible assumption) | assumption)
                  obtain ⟨ad482, A482_0, c482_0, e482, hx482_0, hl482_0, hi482_0⟩ := at_L4 (Kd.S_reads' HO_3.out).2.2 x5_1 p482 q482
                  cases e482
                  obtain ⟨ce482, hce482, hMe482, hcc482⟩ := Kd.S_get HO_3.out [] x5_1 p482 (by first | exact q482 | exact of_decide_eq_true (by first | (with_reducible assumption) | assumption) | (have e_ := (Kd.S_reads' HO_3.out).1; omega))
                  obtain ⟨ve482_0, rfl, ge482_0⟩ := hMe482
                  have hv482_0 := hcc482 0 _ rfl
                  rw [Nat.add_zero, show ((Kd.slice 5 (Kd.int .u8))).sz = 1 from rfl, Nat.mul_one] at hv482_0
                  replace hv482_0 := Option.some.inj (hv482_0.symm.trans hx482_0)
                  rw [hv482_0] at ge482_0
                  have HL482_0 := Aside0.mk (show Kd.R (Kd.int .u8) 5 _ _ _ _ (rd_L4 t473 x5_1) from ge482_0)
                  clear hv482_0 ge482_0
                  clear hcc482 hce482
                  have HR482_0 := Aside0.mk hi482_0
                  have HC482_0 := Aside0.mk hl482_0
                  clear hi482_0 hl482_0
                  replace p482 := eq_true p482
                  replace q482 := eq_true q482
                  have p483 : 0 ≤ (x5_1 : Int) := of_decide_eq_true (by first | (with_reducible assumption) | assumption)
                  have q483 : x5_1 < (t473.length : Int) := of_decide_eq_true (by first | (with_reducible assumption) | assumption)
                  obtain ⟨ad483, A483_0, c483_0, e483, hx483_0, hl483_0, hi483_0⟩ := at_L4 (Kd.S_reads' HO_3.out).2.2 x5_1 p483 q483
                  obtain rfl : ad482 = ad483 := (by injection e483)
                  obtain ⟨ce483, hce483, hMe483, hcc483⟩ := Kd.S_get HO_3.out [] x5_1 p483 (by first | exact q483 | exact of_decide_eq_true (by first | (with_reducible assumption) | assumption) | (have e_ := (Kd.S_reads' HO_3.out).1; omega))
                  obtain ⟨ve483_0, rfl, ge483_0⟩ := hMe483
                  have hv483_0 := hcc483 0 _ rfl
                  rw [Nat.add_zero, show ((Kd.slice 5 (Kd.int .u8))).sz = 1 from rfl, Nat.mul_one] at hv483_0
                  replace hv483_0 := Option.some.inj (hv483_0.symm.trans hx483_0)
                  rw [hv483_0] at ge483_0
                  have HL483_0 := Aside0.mk (show Kd.R (Kd.int .u8) 5 _ _ _ _ (rd_L4 t473 x5_1) from ge483_0)
                  clear hv483_0 ge483_0
                  clear hcc483 hce483
                  have HR483_0 := Aside0.mk hi483_0
                  have HC483_0 := Aside0.mk hl483_0
                  clear hi483_0 hl483_0
                  replace p483 := eq_true p483
                  replace q483 := eq_true q483
                  have ea_ := Option.some.inj (hx482_0.symm.trans hx483_0)
                  injection ea_ with ea_ en_ ec_
                  subst ea_
                  subst ec_
                  clear en_
                  have hcv40 := Kd.C_string (P := Tryd.prog) (A := A482_0) (c := c482_0) Tryd.underlying41 Tryd.underlying5 Tryd.underlying9 (by repeat (first | (with_reducible exact HR483_0.out) | (with_reducible refine Kd.C_alloc ?_ _) | (with_reducible refine Kd.C_drewN ?_ _) | (with_reducible refine Kd.C_drew ?_) | exact HR483_0.out))
                  have hcv40q := fun n_ : Nat => Kd.C_string (P := Tryd.prog) (A := A482_0) (c := c482_0) Tryd.underlying41 Tryd.underlying5 Tryd.underlying9 (Kd.C_drewN (by repeat (first | (with_reducible exact HR483_0.out) | (with_reducible refine Kd.C_alloc ?_ _) | (with_reducible refine Kd.C_drewN ?_ _) | (with_reducible refine Kd.C_drew ?_) | exact HR483_0.out)) n_)
                  obtain ⟨i041, hi041, _, hsz41, _⟩ := info_parts info5
                  obtain ⟨A41, hcut41, hA41, hC41⟩ := print_mid_of (P := Tryd.prog) (Value.int .u8) 0 41 5 .i64 .i64 Tryd.underlying41 hi041 hsz41 (some ad480) c0 l0 (ji35) (wrap64 ((ji35) + x7_28)) (of_decide_eq_true (by first | (with_reducible assumption) | assumption)) (by first | omega | exact of_decide_eq_true (by first | (with_reducible assumption) | assumption)) (of_decide_eq_true (by first | (with_reducible assumption) | assumption)) HC0.out
                  have hcut41w : ∀ W : World, (Instr.slice 41 (.slice (some ad480) l0.length c0) (some (.int .i64 (ji35))) (some (.int .i64 (IntKind.i64.wrap ((ji35) + x7_28)))) none).run Tryd.prog W = .ok (.slice A41 ((l0.take (wrap64 ((ji35) + x7_28)).toNat).drop (ji35).toNat).length (c0 - (ji35).toNat)) W := fun W => by rw [i64_w]; exact hcut41 W
                  have HR484 := Aside0.mk (Kd.C_of_reads (h1 := fun _ => rfl) (hA41 _ (Kd.reads_of_C HR0.out)))
                  have HC484 := Aside0.mk hC41
                  clear hA41 hC41 hi041 hsz41
                  have hcv42 := Kd.C_string (P := Tryd.prog) (A := A41) (c := (c0 - (ji35).toNat)) Tryd.underlying41 Tryd.underlying5 Tryd.underlying9 (Kd.C_below HR484.out HB.out)
                  have hcv42q := fun n_ : Nat => Kd.C_string (P := Tryd.prog) (A := A41) (c := (c0 - (ji35).toNat)) Tryd.underlying41 Tryd.underlying5 Tryd.underlying9 (Kd.C_drewN (Kd.C_below HR484.out HB.out) n_)
                  have hlhcv42 : (List.drop (ji35).toNat (List.take (wrap64 ((ji35) + x7_28)).toNat l0)).length = (wrap64 ((ji35) + x7_28)).toNat - (ji35).toNat := by rw [List.length_drop, List.length_take]; omega
                  have hcv42v := fun n_ : Nat => hcv42q n_
                  simp only [hlhcv42] at hcv42v
                  go_wp2
                  repeat (go_quiet (fail); try go_wp2)
                  go_roundg kj28
                  case measure => have := HK1.out; have := HJ28.out; omega
                  case rel => exact ⟨(wrap64 ((ji35) + x7_28)), (wrap64 (x5_1 + 1)), (by first | rfl | (simp; done) | (simp only [← hji35] <;> (first | rfl | simp)) | (simp [*]; done)), (by first | rfl | (simp; done) | (simp [*]; done)), H', ⟨by have := HK1.out; have := HJ28.out; omega⟩, ⟨by (with_reducible repeat (first | apply Kd.S_alloc | apply Kd.S_drewN | apply Kd.S_drew)); exact HO_3.out⟩, ⟨by repeat (first | (with_reducible first | exact HB.out | apply below_alloc | apply pw_below_drewN | apply below_drew1) | exact HB.out)⟩⟩
          · rw [if_neg c14] at H
            have c14b0 : decide (x5_1 < (t473.length : Int)) = false := decide_eq_false c14
            clear c14
            obtain rfl := Option.some.inj H
            obtain ⟨Ao43, co43, eo43⟩ := Kd.S_slice HO_3.out
            subst eo43
            go_wp2
            repeat (go_quiet (fail); try go_wp2)
            go_ret
            exact ⟨by first | rfl | (simp [errW_none, errW_some] <;> rfl) | (simp [*, errW_none, errW_some] <;> rfl), by repeat (first | (with_reducible first | exact HB.out | apply below_alloc | apply pw_below_drewN | apply below_drew1) | exact HB.out)⟩
  · replace c3 := Bool.eq_false_iff.mpr c3
    subst c3
    have H1 : (some false) = some r := by rw [if_neg (show ¬ (false = true) by decide)] at H; exact H
    clear H
    have H := H1
    clear H1
    exact absurd (Option.some.inj H) (by rw [hr0_.out]; decide)

/-- THE ONE PURE STATEMENT of damperlaw3_EventPieces: yours. -/
def damperlaw3_EventPieces.Pure : Prop := ∀ (l0 : List Int), (l0.length ≤ maxLen ∧ ∀ y_ ∈ l0, (Lit.int .u8 y_).wf = true) → ∃ k, damperlaw3_EventPieces.f k l0 = some true
theorem damperlaw3_EventPieces.walk (P : damperlaw3_EventPieces.Pure) (A0 : Option Addr) (c0 : Nat) (l0 : List Int) (w : World) (hLd_ : LaidW w) (w0 : l0.length ≤ maxLen ∧ ∀ y_ ∈ l0, (Lit.int .u8 y_).wf = true) (hr0 : Kd.C (Kd.int .u8) w A0 l0.length l0) (hc0 : l0.length ≤ c0) :
    Calls Tryd.prog 7 #[.slice A0 l0.length c0] w fun e w' => e = .returned (.bool true) ∧ Below w.heap.size w w' := by
  obtain ⟨k, h⟩ := P l0 w0
  refine (damperlaw3_EventPieces.calls k A0 c0 l0 true w ⟨hLd_⟩ hr0 hc0 ⟨rfl⟩ h).mono ?_
  rintro e w' ⟨rfl, hd⟩
  exact ⟨rfl, hd⟩

end Go.Proofs.YtalpoojepffldaaDoor.Ma
