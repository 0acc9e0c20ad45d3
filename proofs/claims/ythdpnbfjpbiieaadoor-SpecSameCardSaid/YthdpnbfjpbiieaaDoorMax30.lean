-- Written by a program of this session (wip/tools/myprint.py), in the form of the kit's print. Not trusted: Lean checks it.
import Derived.Test.YthdpnbfjpbiieaaDoorMax0
import Derived.Test.YthdpnbfjpbiieaaDoorMax14
import Derived.Test.YthdpnbfjpbiieaaDoorMax20
import Derived.Test.YthdpnbfjpbiieaaDoorMax28
import Derived.Test.YthdpnbfjpbiieaaDoorMax29
namespace Go.Proofs.YthdpnbfjpbiieaaDoor.Ma
open Go.RowKit Go.Proofs.YthdpnbfjpbiieaaDoorW.PrintWords Go.Proofs.YthdpnbfjpbiieaaDoorW.PrintLast Go.Proofs.YthdpnbfjpbiieaaDoorW.PrintMore
attribute [local go_sem] max2_int min2_int max_two min_two max_three min_three max_four min_four   -- for this text's walks alone
set_option linter.unusedVariables false
set_option linter.unusedSimpArgs false

/-! ### damperlaw2_SpecSame: function 9 -/
mutual
def damperlaw2_SpecSame.j0 : Nat → Int → Int → Bool → ByteArray → ByteArray → List (S41) → Int → ByteArray → ByteArray → List (S41) → Int → Option (Bool)
  | 0, _, _, _, _, _, _, _, _, _, _, _ => none
  | k + 1, x4, x5, x43, x418000, x418001, x418002, x418003, x426000, x426001, x426002, x426003 => if x43 = true then (some false) else (if (x426002.length : Int) = 0 then (none) else (if (wi x4 6) = 0 then (if x426000.size + 1 ≤ 9223372036854775807 then (damperlaw2_SpecSame.j1 k x418000 x418001 x418002 x418003 (x426000 ++ (⟨#[120]⟩ : ByteArray)) x426001 x426002 x426003) else (none)) else (if (wi x4 6) = 1 then (damperlaw2_SpecSame.j1 k x418000 x418001 x418002 x418003 x426000 (⟨#[113]⟩ : ByteArray) x426002 x426003) else (if (wi x4 6) = 2 then (damperlaw2_SpecSame.j1 k x418000 x418001 x418002 x418003 x426000 x426001 x426002 (wrap64 (x426003 + 1))) else (if (wi x4 6) = 3 then (if 0 ≤ (wi x5 (x426002.length : Int)) then (if (wi x5 (x426002.length : Int)) < (x426002.length : Int) then (damperlaw2_SpecSame.j1 k x418000 x418001 x418002 x418003 x426000 x426001 (x426002.set ((wi x5 (x426002.length : Int)) : Int).toNat (⟨(rd_T41 x426002 (wi x5 (x426002.length : Int))).f0, (rd_T41 x426002 (wi x5 (x426002.length : Int))).f1, wrap64 (((rd_T41 x426002 (wi x5 (x426002.length : Int))).f2) + 1)⟩ : S41)) x426003) else (none)) else (none)) else (if (wi x4 6) = 4 then (if 0 ≤ (wi x5 (x426002.length : Int)) then (if (wi x5 (x426002.length : Int)) < (x426002.length : Int) then (if ((rd_T41 x426002 (wi x5 (x426002.length : Int))).f0).size + 1 ≤ 9223372036854775807 then (damperlaw2_SpecSame.j1 k x418000 x418001 x418002 x418003 x426000 x426001 (x426002.set ((wi x5 (x426002.length : Int)) : Int).toNat (⟨((rd_T41 x426002 (wi x5 (x426002.length : Int))).f0) ++ (⟨#[57]⟩ : ByteArray), (rd_T41 x426002 (wi x5 (x426002.length : Int))).f1, (rd_T41 x426002 (wi x5 (x426002.length : Int))).f2⟩ : S41)) x426003) else (none)) else (none)) else (none)) else (if (wi x4 6) = 5 then (if x426002.length < 3518437208883 then (damperlaw2_SpecSame.j1 k x418000 x418001 x418002 x418003 x426000 x426001 (x426002 ++ [(⟨(⟨#[]⟩ : ByteArray), (⟨#[]⟩ : ByteArray), 0⟩ : S41)]) x426003) else (none)) else (damperlaw2_SpecSame.j1 k x418000 x418001 x418002 x418003 x426000 x426001 x426002 x426003))))))))
def damperlaw2_SpecSame.j1 : Nat → ByteArray → ByteArray → List (S41) → Int → ByteArray → ByteArray → List (S41) → Int → Option (Bool)
  | 0, _, _, _, _, _, _, _, _ => none
  | k + 1, x418000, x418001, x418002, x418003, x426000, x426001, x426002, x426003 => (spec_SameRoute.f x418000 x418001 x418002 x418003 x426000 x426001 x426002 x426003).bind fun t436 => (if t436 = true then (some false) else ((spec_SameRoute.f x426000 x426001 x426002 x426003 x418000 x418001 x418002 x418003).bind fun t437 => (some (!t437))))
end
def damperlaw2_SpecSame.f (k : Nat) (a0 : Int) (l1 : List Int) (a2 : Int) (l3 : List Int) (a4 : Int) (a5 : Int) : Option (Bool) := (damperlaw2_known.f k).bind fun t404 => (if t404 = true then ((damperlaw2_Route.f k a0 l1 a2).bind fun bt405 => ((damperlaw2_Route.f k a0 l3 a2).bind fun bt411 => ((damperlaw2_Route.f k a0 l1 a2).bind fun bt419 => ((spec_SameRoute.f bt405.1 bt405.2.1 bt405.2.2.1 bt405.2.2.2 bt411.1 bt411.2.1 bt411.2.2.1 bt411.2.2.2).bind fun t426 => ((damperref2_SameRoute.f k bt405.1 bt405.2.1 bt405.2.2.1 bt405.2.2.2 bt411.1 bt411.2.1 bt411.2.2.1 bt411.2.2.2).bind fun t427 => (if (t426 != t427) = true then (damperlaw2_SpecSame.j0 k a4 a5 true bt405.1 bt405.2.1 bt405.2.2.1 bt405.2.2.2 bt419.1 bt419.2.1 bt419.2.2.1 bt419.2.2.2) else ((spec_SameRoute.f bt405.1 bt405.2.1 bt405.2.2.1 bt405.2.2.2 bt419.1 bt419.2.1 bt419.2.2.1 bt419.2.2.2).bind fun t428 => (damperlaw2_SpecSame.j0 k a4 a5 (!t428) bt405.1 bt405.2.1 bt405.2.2.1 bt405.2.2.2 bt419.1 bt419.2.1 bt419.2.2.1 bt419.2.2.2)))))))) else (some false))
theorem damperlaw2_SpecSame.mono_l : ∀ k, (∀ y0 y1 y2 y3 y4 y5 y6 y7 y8 y9 y10, LeO (damperlaw2_SpecSame.j0 k y0 y1 y2 y3 y4 y5 y6 y7 y8 y9 y10) (damperlaw2_SpecSame.j0 (k + 1) y0 y1 y2 y3 y4 y5 y6 y7 y8 y9 y10)) ∧ (∀ y0 y1 y2 y3 y4 y5 y6 y7, LeO (damperlaw2_SpecSame.j1 k y0 y1 y2 y3 y4 y5 y6 y7) (damperlaw2_SpecSame.j1 (k + 1) y0 y1 y2 y3 y4 y5 y6 y7))
  | 0 => ⟨fun _ _ _ _ _ _ _ _ _ _ _ r h => by simp [damperlaw2_SpecSame.j0] at h, fun _ _ _ _ _ _ _ _ r h => by simp [damperlaw2_SpecSame.j1] at h⟩
  | k + 1 => by
    obtain ⟨ih0, ih1⟩ := damperlaw2_SpecSame.mono_l k
    refine ⟨?_, ?_⟩
    · intro y0 y1 y2 y3 y4 y5 y6 y7 y8 y9 y10
      unfold damperlaw2_SpecSame.j0
      repeat' first
      | (with_reducible exact ih0 _ _ _ _ _ _ _ _ _ _ _)
      | (with_reducible exact ih1 _ _ _ _ _ _ _ _)
      | (with_reducible exact damperlaw2_Route.mono _ _ _ _)
      | (with_reducible exact damperlaw2_known.mono _)
      | (with_reducible exact damperref2_SameRoute.mono _ _ _ _ _ _ _ _ _)
      | (with_reducible exact LeO.refl _)
      | (with_reducible exact LeO.none _)
      | (with_reducible refine LeO.ite ?_ ?_)
      | (with_reducible refine LeO.bind ?_ (fun _ => ?_))
      | exact ih0 _ _ _ _ _ _ _ _ _ _ _
      | exact ih1 _ _ _ _ _ _ _ _
      | exact damperlaw2_Route.mono _ _ _ _
      | exact damperlaw2_known.mono _
      | exact damperref2_SameRoute.mono _ _ _ _ _ _ _ _ _
      | exact LeO.none _
      | refine LeO.ite ?_ ?_
      | refine LeO.bind ?_ (fun _ => ?_)
    · intro y0 y1 y2 y3 y4 y5 y6 y7
      unfold damperlaw2_SpecSame.j1
      repeat' first
      | (with_reducible exact ih0 _ _ _ _ _ _ _ _ _ _ _)
      | (with_reducible exact ih1 _ _ _ _ _ _ _ _)
      | (with_reducible exact damperlaw2_Route.mono _ _ _ _)
      | (with_reducible exact damperlaw2_known.mono _)
      | (with_reducible exact damperref2_SameRoute.mono _ _ _ _ _ _ _ _ _)
      | (with_reducible exact LeO.refl _)
      | (with_reducible exact LeO.none _)
      | (with_reducible refine LeO.ite ?_ ?_)
      | (with_reducible refine LeO.bind ?_ (fun _ => ?_))
      | exact ih0 _ _ _ _ _ _ _ _ _ _ _
      | exact ih1 _ _ _ _ _ _ _ _
      | exact damperlaw2_Route.mono _ _ _ _
      | exact damperlaw2_known.mono _
      | exact damperref2_SameRoute.mono _ _ _ _ _ _ _ _ _
      | exact LeO.none _
      | refine LeO.ite ?_ ?_
      | refine LeO.bind ?_ (fun _ => ?_)
theorem damperlaw2_SpecSame.mono : ∀ a0 a1 a2 a3 a4 a5 k, LeO (damperlaw2_SpecSame.f k a0 a1 a2 a3 a4 a5) (damperlaw2_SpecSame.f (k + 1) a0 a1 a2 a3 a4 a5) := by
  intro a0 a1 a2 a3 a4 a5 k
  obtain ⟨ih0, ih1⟩ := damperlaw2_SpecSame.mono_l k
  unfold damperlaw2_SpecSame.f
  repeat' first
      | (with_reducible exact ih0 _ _ _ _ _ _ _ _ _ _ _)
      | (with_reducible exact ih1 _ _ _ _ _ _ _ _)
      | (with_reducible exact damperlaw2_Route.mono _ _ _ _)
      | (with_reducible exact damperlaw2_known.mono _)
      | (with_reducible exact damperref2_SameRoute.mono _ _ _ _ _ _ _ _ _)
      | (with_reducible exact LeO.refl _)
      | (with_reducible exact LeO.none _)
      | (with_reducible refine LeO.ite ?_ ?_)
      | (with_reducible refine LeO.bind ?_ (fun _ => ?_))
      | exact ih0 _ _ _ _ _ _ _ _ _ _ _
      | exact ih1 _ _ _ _ _ _ _ _
      | exact damperlaw2_Route.mono _ _ _ _
      | exact damperlaw2_known.mono _
      | exact damperref2_SameRoute.mono _ _ _ _ _ _ _ _ _
      | exact LeO.none _
      | refine LeO.ite ?_ ?_
      | refine LeO.bind ?_ (fun _ => ?_)
def damperlaw2_SpecSame.T5 : Bool × List (List Nat × List Nat) := (true, [([], []), ([], []), ([0, 1], [0, 1]), ([], []), ([], []), ([3, 4, 2], [3, 4]), ([2, 5], [2, 5]), ([6, 5], [6]), ([7], [7]), ([7], [7]), ([8, 9, 7, 7], [7, 8, 9]), ([10, 7], [7, 10]), ([7, 11], [7, 11])])
def damperlaw2_SpecSame.B5 : List Nat := [0, 0, 3, 0, 0, 31, 63, 127, 255, 255, 1023, 2047, 4095]
theorem damperlaw2_SpecSame.tab5 : rtab .any (opsOf Tryd.f9 5) = damperlaw2_SpecSame.T5 := by kernel_rfl
theorem damperlaw2_SpecSame.bits5 : waitsOk damperlaw2_SpecSame.T5.2 damperlaw2_SpecSame.B5 = true := by kernel_rfl
def damperlaw2_SpecSame.T18 : Bool × List (List Nat × List Nat) := (true, [([], []), ([0], [0]), ([], []), ([], []), ([3], [3]), ([], []), ([4, 5], [4, 5]), ([6], [6]), ([7], [7]), ([8], [8]), ([1, 2, 0, 1, 2, 3, 4, 5, 6, 7, 8, 9], [1, 2]), ([10, 0, 1, 2, 3, 4, 5, 6, 7, 8, 9], [10]), ([11, 9, 0, 1, 2, 3, 4, 5, 6, 7, 8, 9], [9, 11])])
def damperlaw2_SpecSame.B18 : List Nat := [0, 1, 0, 0, 8, 0, 56, 120, 248, 504, 1023, 2047, 4095]
theorem damperlaw2_SpecSame.tab18 : rtab .any (opsOf Tryd.f9 18) = damperlaw2_SpecSame.T18 := by kernel_rfl
theorem damperlaw2_SpecSame.bits18 : waitsOk damperlaw2_SpecSame.T18.2 damperlaw2_SpecSame.B18 = true := by kernel_rfl
set_option maxHeartbeats 8000000 in
set_option maxRecDepth 100000 in
theorem damperlaw2_SpecSame.calls (k : Nat) (a0 : Int) (A1 : Option Addr) (c1 : Nat) (l1 : List Int) (a2 : Int) (A3 : Option Addr) (c3 : Nat) (l3 : List Int) (a4 : Int) (a5 : Int) (r : Bool) (w : World) (hLd_ : Aside0 (LaidW w)) (hr1 : Kd.C (Kd.int .i64) w A1 l1.length l1) (hc1 : l1.length ≤ c1) (hr3 : Kd.C (Kd.int .i64) w A3 l3.length l3) (hc3 : l3.length ≤ c3) (hr0_ : Aside0 (r = true)) (h : damperlaw2_SpecSame.f k a0 l1 a2 l3 a4 a5 = some r) :
    Calls Tryd.prog 9 #[.int .i64 a0, .slice A1 l1.length c1, .int .i64 a2, .slice A3 l3.length c3, .int .i64 a4, .int .i64 a5] w fun e w' => e = .returned (.bool r) ∧ Below w.heap.size w w' := by
  have hu35 := Tryd.underlying35
  have hu41 := Tryd.underlying41
  have HR1 := Aside0.mk hr1
  have HC1 := Aside0.mk hc1
  clear hr1 hc1
  have HR3 := Aside0.mk hr3
  have HC3 := Aside0.mk hc3
  clear hr3 hc3
  have HB := Aside0.mk (Below.refl w.heap.size w)
  have H : ((damperlaw2_known.f k).bind fun t404 => (if t404 = true then ((damperlaw2_Route.f k a0 l1 a2).bind fun bt405 => ((damperlaw2_Route.f k a0 l3 a2).bind fun bt411 => ((damperlaw2_Route.f k a0 l1 a2).bind fun bt419 => ((spec_SameRoute.f bt405.1 bt405.2.1 bt405.2.2.1 bt405.2.2.2 bt411.1 bt411.2.1 bt411.2.2.1 bt411.2.2.2).bind fun t426 => ((damperref2_SameRoute.f k bt405.1 bt405.2.1 bt405.2.2.1 bt405.2.2.2 bt411.1 bt411.2.1 bt411.2.2.1 bt411.2.2.2).bind fun t427 => (if (t426 != t427) = true then (damperlaw2_SpecSame.j0 k a4 a5 true bt405.1 bt405.2.1 bt405.2.2.1 bt405.2.2.2 bt419.1 bt419.2.1 bt419.2.2.1 bt419.2.2.2) else ((spec_SameRoute.f bt405.1 bt405.2.1 bt405.2.2.1 bt405.2.2.2 bt419.1 bt419.2.1 bt419.2.2.1 bt419.2.2.2).bind fun t428 => (damperlaw2_SpecSame.j0 k a4 a5 (!t428) bt405.1 bt405.2.1 bt405.2.2.1 bt405.2.2.2 bt419.1 bt419.2.1 bt419.2.2.1 bt419.2.2.2)))))))) else (some false))) = some r := h
  clear h
  replace H := Option.bind_eq_some_iff.mp H
  obtain ⟨t404, A70, H⟩ := H
  replace H : (if t404 = true then ((damperlaw2_Route.f k a0 l1 a2).bind fun bt405 => ((damperlaw2_Route.f k a0 l3 a2).bind fun bt411 => ((damperlaw2_Route.f k a0 l1 a2).bind fun bt419 => ((spec_SameRoute.f bt405.1 bt405.2.1 bt405.2.2.1 bt405.2.2.2 bt411.1 bt411.2.1 bt411.2.2.1 bt411.2.2.2).bind fun t426 => ((damperref2_SameRoute.f k bt405.1 bt405.2.1 bt405.2.2.1 bt405.2.2.2 bt411.1 bt411.2.1 bt411.2.2.1 bt411.2.2.2).bind fun t427 => (if (t426 != t427) = true then (damperlaw2_SpecSame.j0 k a4 a5 true bt405.1 bt405.2.1 bt405.2.2.1 bt405.2.2.2 bt419.1 bt419.2.1 bt419.2.2.1 bt419.2.2.2) else ((spec_SameRoute.f bt405.1 bt405.2.1 bt405.2.2.1 bt405.2.2.2 bt419.1 bt419.2.1 bt419.2.2.1 bt419.2.2.2).bind fun t428 => (damperlaw2_SpecSame.j0 k a4 a5 (!t428) bt405.1 bt405.2.1 bt405.2.2.1 bt405.2.2.2 bt419.1 bt419.2.1 bt419.2.2.1 bt419.2.2.2)))))))) else (some false)) = some r := H
  have A7 := Aside0.mk A70
  clear A70
  by_cases c8 : t404 = true
  · subst c8
    have H1 : ((damperlaw2_Route.f k a0 l1 a2).bind fun bt405 => ((damperlaw2_Route.f k a0 l3 a2).bind fun bt411 => ((damperlaw2_Route.f k a0 l1 a2).bind fun bt419 => ((spec_SameRoute.f bt405.1 bt405.2.1 bt405.2.2.1 bt405.2.2.2 bt411.1 bt411.2.1 bt411.2.2.1 bt411.2.2.2).bind fun t426 => ((damperref2_SameRoute.f k bt405.1 bt405.2.1 bt405.2.2.1 bt405.2.2.2 bt411.1 bt411.2.1 bt411.2.2.1 bt411.2.2.2).bind fun t427 => (if (t426 != t427) = true then (damperlaw2_SpecSame.j0 k a4 a5 true bt405.1 bt405.2.1 bt405.2.2.1 bt405.2.2.2 bt419.1 bt419.2.1 bt419.2.2.1 bt419.2.2.2) else ((spec_SameRoute.f bt405.1 bt405.2.1 bt405.2.2.1 bt405.2.2.2 bt419.1 bt419.2.1 bt419.2.2.1 bt419.2.2.2).bind fun t428 => (damperlaw2_SpecSame.j0 k a4 a5 (!t428) bt405.1 bt405.2.1 bt405.2.2.1 bt405.2.2.2 bt419.1 bt419.2.1 bt419.2.2.1 bt419.2.2.2)))))))) = some r := by rw [if_pos rfl] at H; exact H
    clear H
    have H := H1
    clear H1
    replace H := Option.bind_eq_some_iff.mp H
    obtain ⟨⟨t405, t406, t407, t410⟩, A90, H⟩ := H
    replace H : ((damperlaw2_Route.f k a0 l3 a2).bind fun bt411 => ((damperlaw2_Route.f k a0 l1 a2).bind fun bt419 => ((spec_SameRoute.f t405 t406 t407 t410 bt411.1 bt411.2.1 bt411.2.2.1 bt411.2.2.2).bind fun t426 => ((damperref2_SameRoute.f k t405 t406 t407 t410 bt411.1 bt411.2.1 bt411.2.2.1 bt411.2.2.2).bind fun t427 => (if (t426 != t427) = true then (damperlaw2_SpecSame.j0 k a4 a5 true t405 t406 t407 t410 bt419.1 bt419.2.1 bt419.2.2.1 bt419.2.2.2) else ((spec_SameRoute.f t405 t406 t407 t410 bt419.1 bt419.2.1 bt419.2.2.1 bt419.2.2.2).bind fun t428 => (damperlaw2_SpecSame.j0 k a4 a5 (!t428) t405 t406 t407 t410 bt419.1 bt419.2.1 bt419.2.2.1 bt419.2.2.2))))))) = some r := H
    have A9 := Aside0.mk A90
    clear A90
    replace H := Option.bind_eq_some_iff.mp H
    obtain ⟨⟨t411, t412, t413, t416⟩, A100, H⟩ := H
    replace H : ((damperlaw2_Route.f k a0 l1 a2).bind fun bt419 => ((spec_SameRoute.f t405 t406 t407 t410 t411 t412 t413 t416).bind fun t426 => ((damperref2_SameRoute.f k t405 t406 t407 t410 t411 t412 t413 t416).bind fun t427 => (if (t426 != t427) = true then (damperlaw2_SpecSame.j0 k a4 a5 true t405 t406 t407 t410 bt419.1 bt419.2.1 bt419.2.2.1 bt419.2.2.2) else ((spec_SameRoute.f t405 t406 t407 t410 bt419.1 bt419.2.1 bt419.2.2.1 bt419.2.2.2).bind fun t428 => (damperlaw2_SpecSame.j0 k a4 a5 (!t428) t405 t406 t407 t410 bt419.1 bt419.2.1 bt419.2.2.1 bt419.2.2.2)))))) = some r := H
    have A10 := Aside0.mk A100
    clear A100
    replace H := Option.bind_eq_some_iff.mp H
    obtain ⟨⟨t419, t420, t421, t424⟩, A110, H⟩ := H
    replace H : ((spec_SameRoute.f t405 t406 t407 t410 t411 t412 t413 t416).bind fun t426 => ((damperref2_SameRoute.f k t405 t406 t407 t410 t411 t412 t413 t416).bind fun t427 => (if (t426 != t427) = true then (damperlaw2_SpecSame.j0 k a4 a5 true t405 t406 t407 t410 t419 t420 t421 t424) else ((spec_SameRoute.f t405 t406 t407 t410 t419 t420 t421 t424).bind fun t428 => (damperlaw2_SpecSame.j0 k a4 a5 (!t428) t405 t406 t407 t410 t419 t420 t421 t424))))) = some r := H
    have A11 := Aside0.mk A110
    clear A110
    have HC12 := Aside0.mk H
    clear H
    go_enter Tryd.func9, Tryd.ntmps9
    go_upto_region 5 with (first | (go_at_call 15; refine (damperlaw2_within.keep _ _ rfl (by first | decide | assumption | exact wi_ne (by assumption) | exact wi_ne' (by assumption) | omega) _).mono ?_; rintro e w' ⟨rfl, rfl⟩) | ((with_reducible refine gate_callee (f := 11) rfl ?_); refine goesL_ (some 17) rfl rfl Tryd.func11 (by kernel_rfl) rfl #[] rfl (by (try simp only [List.map_toArray, List.map_cons, List.map_nil]); first | done | rfl | (simp only [List.length_drop, List.length_take]; rfl)) ?_; (with_reducible refine (damperlaw2_known.calls k  true _ ?side1 A7.out).mono ?_); (case side1 => first | exact hLd_.out | exact hLd_ | exact ⟨LaidW.below hLd_.out (by repeat (first | (with_reducible first | exact HB.out | apply below_alloc | apply pw_below_drewN | apply below_drew1) | exact HB.out))⟩ | exact ⟨LaidW.below hLd_.out (by repeat (first | exact Below.refl _ _ | apply below_alloc | apply pw_below_drewN | apply below_drew1))⟩); rintro e w13 ⟨rfl, hb⟩; refine ⟨_, rfl, ?_⟩; have n0_ := Aside0.mk (below_step (by repeat (first | (with_reducible first | exact HB.out | apply below_alloc | apply pw_below_drewN | apply below_drew1) | exact HB.out)) hb); clear HB; have HB := n0_; clear n0_; (try clear hb); (try clear hb2); (try clear hk); (try clear hi)) | ((with_reducible refine gate_callee (f := 18) rfl ?_); refine goesL_ (some 22) rfl rfl Tryd.func18 (by kernel_rfl) rfl #[.int .i64 a0, .slice A1 l1.length c1, .int .i64 a2] rfl (by (try simp only [List.map_toArray, List.map_cons, List.map_nil]); first | done | rfl | (simp only [List.length_drop, List.length_take]; rfl)) ?_; (with_reducible refine (damperlaw2_Route.calls k a0 _ _ l1 a2 t405 t406 t407 t410 _ ?side1 ?side2 A9.out).mono ?_); (case side1 => repeat (first | exact (Kd.C_below HR1.out HB.out) | (with_reducible refine Kd.C_alloc ?_ _) | (with_reducible refine Kd.C_drewN ?_ _) | (with_reducible refine Kd.C_drew ?_))); (case side2 => exact HC1.out); rintro e w14 ⟨v408, rfl, ho0, hb⟩; refine ⟨_, rfl, ?_⟩; have n0_ := Aside0.mk (Kd.R_lower ho0 (below_size (by repeat (first | (with_reducible first | exact HB.out | apply below_alloc | apply pw_below_drewN | apply below_drew1) | exact HB.out)))); have n1_ := Aside0.mk (below_step (by repeat (first | (with_reducible first | exact HB.out | apply below_alloc | apply pw_below_drewN | apply below_drew1) | exact HB.out)) hb); clear HB; have HO409 := n0_; have HB := n1_; clear n0_ n1_; (try clear hb); (try clear hb2); (try clear hk); (try clear hi); (try clear ho0)) | ((with_reducible refine gate_callee (f := 18) rfl ?_); refine goesL_ (some 26) rfl rfl Tryd.func18 (by kernel_rfl) rfl #[.int .i64 a0, .slice A3 l3.length c3, .int .i64 a2] rfl (by (try simp only [List.map_toArray, List.map_cons, List.map_nil]); first | done | rfl | (simp only [List.length_drop, List.length_take]; rfl)) ?_; (with_reducible refine (damperlaw2_Route.calls k a0 _ _ l3 a2 t411 t412 t413 t416 _ ?side1 ?side2 A10.out).mono ?_); (case side1 => repeat (first | exact (Kd.C_below HR3.out HB.out) | (with_reducible refine Kd.C_alloc ?_ _) | (with_reducible refine Kd.C_drewN ?_ _) | (with_reducible refine Kd.C_drew ?_))); (case side2 => exact HC3.out); rintro e w15 ⟨v414, rfl, ho0, hb⟩; refine ⟨_, rfl, ?_⟩; have n0_ := Aside0.mk (Kd.R_elder' (by (with_reducible repeat (first | apply Kd.R_alloc | apply Kd.R_drewN | apply Kd.R_drew)); exact HO409.out) (Kd.R_base ho0) hb); have n1_ := Aside0.mk (Kd.R_lower (Kd.R_new' ho0 (Kd.R_lt (by (with_reducible repeat (first | apply Kd.R_alloc | apply Kd.R_drewN | apply Kd.R_drew)); exact HO409.out))) (below_size (by repeat (first | (with_reducible first | exact HB.out | apply below_alloc | apply pw_below_drewN | apply below_drew1) | exact HB.out)))); have n2_ := Aside0.mk (below_step (by repeat (first | (with_reducible first | exact HB.out | apply below_alloc | apply pw_below_drewN | apply below_drew1) | exact HB.out)) hb); clear HO409; clear HB; have HO409 := n0_; have HO415 := n1_; have HB := n2_; clear n0_ n1_ n2_; (try clear hb); (try clear hb2); (try clear hk); (try clear hi); (try clear ho0)) | ((with_reducible refine gate_dst (N := 13) rfl ?_); refine box_event ?hg (N := 13) ?hd (cs := #[.string (⟨#[]⟩ : ByteArray), .string (⟨#[]⟩ : ByteArray), .slice none 0 0, .int .i64 0]) (t := 35) ?hr ?_; (case hd => rfl); (case hg => rfl); (case hr => first | (go_simp; done) | (go_simp; rfl)); intro gb417 hg w16 hbox hb; have n0_ := Aside0.mk (Kd.R_below (by (with_reducible repeat (first | apply Kd.R_alloc | apply Kd.R_drewN | apply Kd.R_drew)); exact HO409.out) hb); have n1_ := Aside0.mk (Kd.R_below (by (with_reducible repeat (first | apply Kd.R_alloc | apply Kd.R_drewN | apply Kd.R_drew)); exact HO415.out) hb); have n2_ := Aside0.mk (below_step (by repeat (first | (with_reducible first | exact HB.out | apply below_alloc | apply pw_below_drewN | apply below_drew1) | exact HB.out)) hb); have n3_ := Aside0.mk (hbox); have n4_ := Aside0.mk ((by rw [hg]; exact (below_size (by repeat (first | (with_reducible first | exact HB.out | apply below_alloc | apply pw_below_drewN | apply below_drew1) | exact HB.out))) : w.heap.size ≤ gb417)); have n5_ := Aside0.mk ((by rw [hg]; exact (below_size (by repeat (first | (with_reducible first | exact HB.out | apply below_alloc | apply pw_below_drewN | apply below_drew1) | exact HB.out))) : w.heap.size ≤ gb417)); clear HO409; clear HO415; clear HB; have HO409 := n0_; have HO415 := n1_; have HB := n2_; have BK417 := n3_; have GW417 := n4_; have GE417 := n5_; clear n0_ n1_ n2_ n3_ n4_ n5_; clear hb hbox hg) | ((with_reducible refine gate_dst (N := 14) rfl ?_); refine box_event ?hg (N := 14) ?hd (cs := #[.string (⟨#[]⟩ : ByteArray), .string (⟨#[]⟩ : ByteArray), .slice none 0 0, .int .i64 0]) (t := 35) ?hr ?_; (case hd => rfl); (case hg => rfl); (case hr => first | (go_simp; done) | (go_simp; rfl)); intro gb418 hg w17 hbox hb; have n0_ := Aside0.mk (Kd.R_below (by (with_reducible repeat (first | apply Kd.R_alloc | apply Kd.R_drewN | apply Kd.R_drew)); exact HO409.out) hb); have n1_ := Aside0.mk (Kd.R_below (by (with_reducible repeat (first | apply Kd.R_alloc | apply Kd.R_drewN | apply Kd.R_drew)); exact HO415.out) hb); have n2_ := Aside0.mk (blk_below (g := gb417) (pk BK417) hb); have n3_ := Aside0.mk (below_step (by repeat (first | (with_reducible first | exact HB.out | apply below_alloc | apply pw_below_drewN | apply below_drew1 | refine below_set ?_ GE417.out) | exact HB.out)) hb); have n4_ := Aside0.mk (hbox); have n5_ := Aside0.mk ((by rw [hg]; exact (below_size (by repeat (first | (with_reducible first | exact HB.out | apply below_alloc | apply pw_below_drewN | apply below_drew1 | refine below_set ?_ GE417.out) | exact HB.out))) : w.heap.size ≤ gb418)); have n6_ := Aside0.mk ((by rw [hg]; exact (below_size (by repeat (first | (with_reducible first | exact HB.out | apply below_alloc | apply pw_below_drewN | apply below_drew1 | refine below_set ?_ GE417.out) | exact HB.out))) : w.heap.size ≤ gb418)); have n7_ := Aside0.mk ((ne_lt hg (pk BK417) : gb417 ≠ gb418)); have n8_ := Aside0.mk ((ne_gt hg (pk BK417) : gb418 ≠ gb417)); clear HO409; clear HO415; clear BK417; clear HB; have HO409 := n0_; have HO415 := n1_; have BK417 := n2_; have HB := n3_; have BK418 := n4_; have GW418 := n5_; have GE418 := n6_; have NB417_418 := n7_; have NB418_417 := n8_; clear n0_ n1_ n2_ n3_ n4_ n5_ n6_ n7_ n8_; clear hb hbox hg; have hnb18 := NB417_418.out; have hnc18 := NB418_417.out; have hcz19_0 : w17.cell? ⟨gb417, 0, none⟩ = some (.string (⟨#[]⟩ : ByteArray)) := bc BK417 0; have hcz19_1 : w17.cell? ⟨gb417, 1, none⟩ = some (.string (⟨#[]⟩ : ByteArray)) := bc BK417 1; have hcz19_2 : w17.cell? ⟨gb417, 2, none⟩ = some (.slice none 0 0) := bc BK417 2; have hcz19_3 : w17.cell? ⟨gb417, 3, none⟩ = some (.int .i64 0) := bc BK417 3; have hfz19_0 := blk_frozen BK417.out 0; have hfz19_1 := blk_frozen BK417.out 1; have hfz19_2 := blk_frozen BK417.out 2; have hfz19_3 := blk_frozen BK417.out 3; obtain ⟨Ao20, co20, eo20⟩ := Kd.R_slice HO409.out; subst eo20; have hcz21_0 : w17.cell? ⟨gb418, 0, none⟩ = some (.string (⟨#[]⟩ : ByteArray)) := bc BK418 0; have hcz21_1 : w17.cell? ⟨gb418, 1, none⟩ = some (.string (⟨#[]⟩ : ByteArray)) := bc BK418 1; have hcz21_2 : w17.cell? ⟨gb418, 2, none⟩ = some (.slice none 0 0) := bc BK418 2; have hcz21_3 : w17.cell? ⟨gb418, 3, none⟩ = some (.int .i64 0) := bc BK418 3; have hfz21_0 := blk_frozen BK418.out 0; have hfz21_1 := blk_frozen BK418.out 1; have hfz21_2 := blk_frozen BK418.out 2; have hfz21_3 := blk_frozen BK418.out 3; obtain ⟨Ao22, co22, eo22⟩ := Kd.R_slice HO415.out; subst eo22) | ((with_reducible refine gate_callee (f := 18) rfl ?_); refine goesL_ (some 30) rfl rfl Tryd.func18 (by kernel_rfl) rfl #[.int .i64 a0, .slice A1 l1.length c1, .int .i64 a2] rfl (by (try simp only [List.map_toArray, List.map_cons, List.map_nil]); first | done | rfl | (simp only [List.length_drop, List.length_take]; rfl)) ?_; (with_reducible refine (damperlaw2_Route.calls k a0 _ _ l1 a2 t419 t420 t421 t424 _ ?side1 ?side2 A11.out).mono ?_); (case side1 => exact Kd.C_below HR1.out (by repeat (first | (with_reducible first | exact HB.out | apply below_alloc | apply pw_below_drewN | apply below_drew1 | refine below_set ?_ GE417.out | refine below_set ?_ GE418.out) | exact HB.out))); (case side2 => exact HC1.out); rintro e w23 ⟨v422, rfl, ho0, hb⟩; refine ⟨_, rfl, ?_⟩; have n0_ := Aside0.mk (Kd.R_elder' (by (with_reducible repeat (first | apply Kd.R_alloc | apply Kd.R_drewN | apply Kd.R_drew)); exact (Kd.R_mono (Kd.R_mono (Kd.R_far (p := ⟨gb418, 3, none⟩) (Kd.R_far (p := ⟨gb418, 2, none⟩) (Kd.R_far (p := ⟨gb418, 1, none⟩) (Kd.R_far (p := ⟨gb418, 0, none⟩) (Kd.R_far (p := ⟨gb417, 3, none⟩) (Kd.R_far (p := ⟨gb417, 2, none⟩) (Kd.R_far (p := ⟨gb417, 1, none⟩) (Kd.R_far (p := ⟨gb417, 0, none⟩) (Kd.R_types (Kd.R_types HO409.out BK417.out (by decide)) BK418.out (by decide)) (fun _ hk => hk.1.2) (.string t405)) (fun _ hk => hk.1.2) (.string t406)) (fun _ hk => hk.1.2) (.slice Ao20 t407.length co20)) (fun _ hk => hk.1.2) (.int .i64 t410)) (fun _ hk => hk.2) (.string t411)) (fun _ hk => hk.2) (.string t412)) (fun _ hk => hk.2) (.slice Ao22 t413.length co22)) (fun _ hk => hk.2) (.int .i64 t416)) (fun _ h_ => h_.1)) (fun _ h_ => h_.1))) (Kd.R_base ho0) hb); have n1_ := Aside0.mk (Kd.R_elder' (by (with_reducible repeat (first | apply Kd.R_alloc | apply Kd.R_drewN | apply Kd.R_drew)); exact (Kd.R_mono (Kd.R_mono (Kd.R_far (p := ⟨gb418, 3, none⟩) (Kd.R_far (p := ⟨gb418, 2, none⟩) (Kd.R_far (p := ⟨gb418, 1, none⟩) (Kd.R_far (p := ⟨gb418, 0, none⟩) (Kd.R_far (p := ⟨gb417, 3, none⟩) (Kd.R_far (p := ⟨gb417, 2, none⟩) (Kd.R_far (p := ⟨gb417, 1, none⟩) (Kd.R_far (p := ⟨gb417, 0, none⟩) (Kd.R_types (Kd.R_types HO415.out BK417.out (by decide)) BK418.out (by decide)) (fun _ hk => hk.1.2) (.string t405)) (fun _ hk => hk.1.2) (.string t406)) (fun _ hk => hk.1.2) (.slice Ao20 t407.length co20)) (fun _ hk => hk.1.2) (.int .i64 t410)) (fun _ hk => hk.2) (.string t411)) (fun _ hk => hk.2) (.string t412)) (fun _ hk => hk.2) (.slice Ao22 t413.length co22)) (fun _ hk => hk.2) (.int .i64 t416)) (fun _ h_ => h_.1)) (fun _ h_ => h_.1))) (Kd.R_base ho0) hb); have n2_ := Aside0.mk (Kd.R_lower (Kd.R_new' (Kd.R_new' ho0 (Kd.R_lt (by (with_reducible repeat (first | apply Kd.R_alloc | apply Kd.R_drewN | apply Kd.R_drew)); exact (Kd.R_mono (Kd.R_mono (Kd.R_far (p := ⟨gb418, 3, none⟩) (Kd.R_far (p := ⟨gb418, 2, none⟩) (Kd.R_far (p := ⟨gb418, 1, none⟩) (Kd.R_far (p := ⟨gb418, 0, none⟩) (Kd.R_far (p := ⟨gb417, 3, none⟩) (Kd.R_far (p := ⟨gb417, 2, none⟩) (Kd.R_far (p := ⟨gb417, 1, none⟩) (Kd.R_far (p := ⟨gb417, 0, none⟩) (Kd.R_types (Kd.R_types HO409.out BK417.out (by decide)) BK418.out (by decide)) (fun _ hk => hk.1.2) (.string t405)) (fun _ hk => hk.1.2) (.string t406)) (fun _ hk => hk.1.2) (.slice Ao20 t407.length co20)) (fun _ hk => hk.1.2) (.int .i64 t410)) (fun _ hk => hk.2) (.string t411)) (fun _ hk => hk.2) (.string t412)) (fun _ hk => hk.2) (.slice Ao22 t413.length co22)) (fun _ hk => hk.2) (.int .i64 t416)) (fun _ h_ => h_.1)) (fun _ h_ => h_.1))))) (Kd.R_lt (by (with_reducible repeat (first | apply Kd.R_alloc | apply Kd.R_drewN | apply Kd.R_drew)); exact (Kd.R_mono (Kd.R_mono (Kd.R_far (p := ⟨gb418, 3, none⟩) (Kd.R_far (p := ⟨gb418, 2, none⟩) (Kd.R_far (p := ⟨gb418, 1, none⟩) (Kd.R_far (p := ⟨gb418, 0, none⟩) (Kd.R_far (p := ⟨gb417, 3, none⟩) (Kd.R_far (p := ⟨gb417, 2, none⟩) (Kd.R_far (p := ⟨gb417, 1, none⟩) (Kd.R_far (p := ⟨gb417, 0, none⟩) (Kd.R_types (Kd.R_types HO415.out BK417.out (by decide)) BK418.out (by decide)) (fun _ hk => hk.1.2) (.string t405)) (fun _ hk => hk.1.2) (.string t406)) (fun _ hk => hk.1.2) (.slice Ao20 t407.length co20)) (fun _ hk => hk.1.2) (.int .i64 t410)) (fun _ hk => hk.2) (.string t411)) (fun _ hk => hk.2) (.string t412)) (fun _ hk => hk.2) (.slice Ao22 t413.length co22)) (fun _ hk => hk.2) (.int .i64 t416)) (fun _ h_ => h_.1)) (fun _ h_ => h_.1))))) (below_size (by repeat (first | (with_reducible first | exact HB.out | apply below_alloc | apply pw_below_drewN | apply below_drew1 | refine below_set ?_ GE417.out | refine below_set ?_ GE418.out) | exact HB.out)))); have n3_ := Aside0.mk (blk_below (g := gb417) (o := .cells #[.string t405, .string t406, .slice Ao20 t407.length co20, .int .i64 t410] 35 (0, 0)) (by (repeat ((with_reducible repeat (first | refine blk_drewN ?_ _ | refine blk_drew ?_ | refine blk_alloc ?_ _)); with_reducible refine blk_far ?_ NB417_418.out _)); (with_reducible repeat (first | refine blk_drewN ?_ _ | refine blk_drew ?_ | refine blk_alloc ?_ _)); refine blk_put (cs := #[.string t405, .string t406, .slice Ao20 t407.length co20, .int .i64 0]) ?_ 3 _ rfl; (with_reducible repeat (first | refine blk_drewN ?_ _ | refine blk_drew ?_ | refine blk_alloc ?_ _)); refine blk_put (cs := #[.string t405, .string t406, .slice none 0 0, .int .i64 0]) ?_ 2 _ rfl; (with_reducible repeat (first | refine blk_drewN ?_ _ | refine blk_drew ?_ | refine blk_alloc ?_ _)); refine blk_put (cs := #[.string t405, .string (⟨#[]⟩ : ByteArray), .slice none 0 0, .int .i64 0]) ?_ 1 _ rfl; (with_reducible repeat (first | refine blk_drewN ?_ _ | refine blk_drew ?_ | refine blk_alloc ?_ _)); refine blk_put (cs := #[.string (⟨#[]⟩ : ByteArray), .string (⟨#[]⟩ : ByteArray), .slice none 0 0, .int .i64 0]) ?_ 0 _ rfl; (with_reducible repeat (first | refine blk_drewN ?_ _ | refine blk_drew ?_ | refine blk_alloc ?_ _)); exact BK417.out) hb); have n4_ := Aside0.mk (blk_below (g := gb418) (o := .cells #[.string t411, .string t412, .slice Ao22 t413.length co22, .int .i64 t416] 35 (0, 0)) (by (with_reducible repeat (first | refine blk_drewN ?_ _ | refine blk_drew ?_ | refine blk_alloc ?_ _)); refine blk_put (cs := #[.string t411, .string t412, .slice Ao22 t413.length co22, .int .i64 0]) ?_ 3 _ rfl; (with_reducible repeat (first | refine blk_drewN ?_ _ | refine blk_drew ?_ | refine blk_alloc ?_ _)); refine blk_put (cs := #[.string t411, .string t412, .slice none 0 0, .int .i64 0]) ?_ 2 _ rfl; (with_reducible repeat (first | refine blk_drewN ?_ _ | refine blk_drew ?_ | refine blk_alloc ?_ _)); refine blk_put (cs := #[.string t411, .string (⟨#[]⟩ : ByteArray), .slice none 0 0, .int .i64 0]) ?_ 1 _ rfl; (with_reducible repeat (first | refine blk_drewN ?_ _ | refine blk_drew ?_ | refine blk_alloc ?_ _)); refine blk_put (cs := #[.string (⟨#[]⟩ : ByteArray), .string (⟨#[]⟩ : ByteArray), .slice none 0 0, .int .i64 0]) ?_ 0 _ rfl; (repeat ((with_reducible repeat (first | refine blk_drewN ?_ _ | refine blk_drew ?_ | refine blk_alloc ?_ _)); with_reducible refine blk_far ?_ NB418_417.out _)); (with_reducible repeat (first | refine blk_drewN ?_ _ | refine blk_drew ?_ | refine blk_alloc ?_ _)); exact BK418.out) hb); have n5_ := Aside0.mk (below_step (by repeat (first | (with_reducible first | exact HB.out | apply below_alloc | apply pw_below_drewN | apply below_drew1 | refine below_set ?_ GE417.out | refine below_set ?_ GE418.out) | exact HB.out)) hb); clear HO409; clear HO415; clear BK417; clear BK418; clear HB; have HO409 := n0_; have HO415 := n1_; have HO423 := n2_; have BK417 := n3_; have BK418 := n4_; have HB := n5_; clear n0_ n1_ n2_ n3_ n4_ n5_; (try clear hb); (try clear hb2); (try clear hk); (try clear hi); (try clear ho0)) | ((with_reducible refine gate_dst (N := 15) rfl ?_); refine box_event ?hg (N := 15) ?hd (cs := #[.string (⟨#[]⟩ : ByteArray), .string (⟨#[]⟩ : ByteArray), .slice none 0 0, .int .i64 0]) (t := 35) ?hr ?_; (case hd => rfl); (case hg => rfl); (case hr => first | (go_simp; done) | (go_simp; rfl)); intro gb425 hg w24 hbox hb; have n0_ := Aside0.mk (Kd.R_below (by (with_reducible repeat (first | apply Kd.R_alloc | apply Kd.R_drewN | apply Kd.R_drew)); exact HO409.out) hb); have n1_ := Aside0.mk (Kd.R_below (by (with_reducible repeat (first | apply Kd.R_alloc | apply Kd.R_drewN | apply Kd.R_drew)); exact HO415.out) hb); have n2_ := Aside0.mk (Kd.R_below (by (with_reducible repeat (first | apply Kd.R_alloc | apply Kd.R_drewN | apply Kd.R_drew)); exact HO423.out) hb); have n3_ := Aside0.mk (blk_below (g := gb417) (pk BK417) hb); have n4_ := Aside0.mk (blk_below (g := gb418) (pk BK418) hb); have n5_ := Aside0.mk (below_step (by repeat (first | (with_reducible first | exact HB.out | apply below_alloc | apply pw_below_drewN | apply below_drew1 | refine below_set ?_ GE417.out | refine below_set ?_ GE418.out) | exact HB.out)) hb); have n6_ := Aside0.mk (hbox); have n7_ := Aside0.mk ((by rw [hg]; exact (below_size (by repeat (first | (with_reducible first | exact HB.out | apply below_alloc | apply pw_below_drewN | apply below_drew1 | refine below_set ?_ GE417.out | refine below_set ?_ GE418.out) | exact HB.out))) : w.heap.size ≤ gb425)); have n8_ := Aside0.mk ((by rw [hg]; exact (below_size (by repeat (first | (with_reducible first | exact HB.out | apply below_alloc | apply pw_below_drewN | apply below_drew1 | refine below_set ?_ GE417.out | refine below_set ?_ GE418.out) | exact HB.out))) : w.heap.size ≤ gb425)); have n9_ := Aside0.mk ((ne_lt hg (pk BK417) : gb417 ≠ gb425)); have n10_ := Aside0.mk ((ne_gt hg (pk BK417) : gb425 ≠ gb417)); have n11_ := Aside0.mk ((ne_lt hg (pk BK418) : gb418 ≠ gb425)); have n12_ := Aside0.mk ((ne_gt hg (pk BK418) : gb425 ≠ gb418)); clear HO409; clear HO415; clear HO423; clear BK417; clear BK418; clear HB; have HO409 := n0_; have HO415 := n1_; have HO423 := n2_; have BK417 := n3_; have BK418 := n4_; have HB := n5_; have BK425 := n6_; have GW425 := n7_; have GE425 := n8_; have NB417_425 := n9_; have NB425_417 := n10_; have NB418_425 := n11_; have NB425_418 := n12_; clear n0_ n1_ n2_ n3_ n4_ n5_ n6_ n7_ n8_ n9_ n10_ n11_ n12_; clear hb hbox hg; have hnb25 := NB425_417.out; have hnc25 := NB417_425.out; have hnb26 := NB425_418.out; have hnc26 := NB418_425.out; have hcz27_0 : w24.cell? ⟨gb425, 0, none⟩ = some (.string (⟨#[]⟩ : ByteArray)) := bc BK425 0; have hcz27_1 : w24.cell? ⟨gb425, 1, none⟩ = some (.string (⟨#[]⟩ : ByteArray)) := bc BK425 1; have hcz27_2 : w24.cell? ⟨gb425, 2, none⟩ = some (.slice none 0 0) := bc BK425 2; have hcz27_3 : w24.cell? ⟨gb425, 3, none⟩ = some (.int .i64 0) := bc BK425 3; have hfz27_0 := blk_frozen BK425.out 0; have hfz27_1 := blk_frozen BK425.out 1; have hfz27_2 := blk_frozen BK425.out 2; have hfz27_3 := blk_frozen BK425.out 3; obtain ⟨Ao28, co28, eo28⟩ := Kd.R_slice HO423.out; subst eo28))
    (try simp only [Act.put, List.setIfInBounds_toArray, List.set_cons_zero, List.set_cons_succ])
    go_cut [43] (fun v43 wc => ∃ (kq : Nat) (x43_11 : Bool), v43 = .bool x43_11 ∧ Aside0 (damperlaw2_SpecSame.j0 kq a4 a5 x43_11 t405 t406 t407 t410 t419 t420 t421 t424 = some r) ∧ Aside0 (kq ≤ k) ∧ Aside0 (Kd.R k41 41 wc w.heap.size (fun k_ => some k_ ≠ ((.slice Ao22 t413.length co22) : Value).ownBlock ∧ some k_ ≠ ((.slice Ao28 t421.length co28) : Value).ownBlock) (.slice Ao20 t407.length co20) t407) ∧ Aside0 (Kd.R k41 41 wc w.heap.size (fun k_ => some k_ ≠ ((.slice Ao20 t407.length co20) : Value).ownBlock ∧ some k_ ≠ ((.slice Ao28 t421.length co28) : Value).ownBlock) (.slice Ao22 t413.length co22) t413) ∧ Aside0 (Kd.R k41 41 wc w.heap.size (fun k_ => some k_ ≠ ((.slice Ao20 t407.length co20) : Value).ownBlock ∧ some k_ ≠ ((.slice Ao22 t413.length co22) : Value).ownBlock) (.slice Ao28 t421.length co28) t421) ∧ Aside0 (wc.heap[gb417]? = some (.cells #[.string t405, .string t406, (.slice Ao20 t407.length co20), .int .i64 t410] 35 (0, 0))) ∧ Aside0 (wc.heap[gb418]? = some (.cells #[.string t411, .string t412, (.slice Ao22 t413.length co22), .int .i64 t416] 35 (0, 0))) ∧ Aside0 (wc.heap[gb425]? = some (.cells #[.string t419, .string t420, (.slice Ao28 t421.length co28), .int .i64 t424] 35 (0, 0))) ∧ Aside0 (Below w.heap.size w wc))
    case first =>
      have H := HC12.out
      clear HC12
      replace H := Option.bind_eq_some_iff.mp H
      obtain ⟨t426, A290, H⟩ := H
      replace H : ((damperref2_SameRoute.f k t405 t406 t407 t410 t411 t412 t413 t416).bind fun t427 => (if (t426 != t427) = true then (damperlaw2_SpecSame.j0 k a4 a5 true t405 t406 t407 t410 t419 t420 t421 t424) else ((spec_SameRoute.f t405 t406 t407 t410 t419 t420 t421 t424).bind fun t428 => (damperlaw2_SpecSame.j0 k a4 a5 (!t428) t405 t406 t407 t410 t419 t420 t421 t424)))) = some r := H
      have A29 := Aside0.mk A290
      clear A290
      replace H := Option.bind_eq_some_iff.mp H
      obtain ⟨t427, A300, H⟩ := H
      replace H : (if (t426 != t427) = true then (damperlaw2_SpecSame.j0 k a4 a5 true t405 t406 t407 t410 t419 t420 t421 t424) else ((spec_SameRoute.f t405 t406 t407 t410 t419 t420 t421 t424).bind fun t428 => (damperlaw2_SpecSame.j0 k a4 a5 (!t428) t405 t406 t407 t410 t419 t420 t421 t424))) = some r := H
      have A30 := Aside0.mk A300
      clear A300
      by_cases c31 : (t426 != t427) = true
      · rw [if_pos c31] at H
        have c31b0 : (t426 != t427) = true := c31
        (try (have c31b1 : decide (t426 = t427) = false := by simpa using c31))
        (try (have c31b2 : (t426 == t427) = false := by simpa using c31))
        (try (have c31b3 : ¬ (t426 = t427) := by simpa using c31))
        clear c31
        (first | rw [c31b0] | (simp only [i64_w, i32_w]; rw [c31b0]) | rw [c31b1] | skip)
        have H' := Aside0.mk H
        clear H
        try go_wp2_with (first | (go_at_call 15; refine (damperlaw2_within.keep _ _ rfl (by first | decide | assumption | exact wi_ne (by assumption) | exact wi_ne' (by assumption) | omega) _).mono ?_; rintro e w' ⟨rfl, rfl⟩))
        have n0_ : Aside0 (Kd.R k41 41 ((((w24.setCell ⟨gb425, 0, none⟩ (.string t419)).setCell ⟨gb425, 1, none⟩ (.string t420)).setCell ⟨gb425, 2, none⟩ (.slice Ao28 t421.length co28)).setCell ⟨gb425, 3, none⟩ (.int .i64 t424)) w.heap.size (fun k_ => some k_ ≠ (.slice Ao22 t413.length co22 : Value).ownBlock ∧ some k_ ≠ (.slice Ao28 t421.length co28 : Value).ownBlock) (.slice Ao20 t407.length co20) t407) := ⟨by (with_reducible repeat (first | apply Kd.R_alloc | apply Kd.R_drewN | apply Kd.R_drew)); exact Kd.R_mono (Kd.R_far (p := ⟨gb425, 3, none⟩) (Kd.R_far (p := ⟨gb425, 2, none⟩) (Kd.R_far (p := ⟨gb425, 1, none⟩) (Kd.R_far (p := ⟨gb425, 0, none⟩) (Kd.R_types HO409.out BK425.out (by decide)) (fun _ hk => hk.2) (.string t419)) (fun _ hk => hk.2) (.string t420)) (fun _ hk => hk.2) (.slice Ao28 t421.length co28)) (fun _ hk => hk.2) (.int .i64 t424)) (fun _ hk => ⟨hk.1.1.2, hk.1.2⟩)⟩
        have n1_ : Aside0 (Kd.R k41 41 ((((w24.setCell ⟨gb425, 0, none⟩ (.string t419)).setCell ⟨gb425, 1, none⟩ (.string t420)).setCell ⟨gb425, 2, none⟩ (.slice Ao28 t421.length co28)).setCell ⟨gb425, 3, none⟩ (.int .i64 t424)) w.heap.size (fun k_ => some k_ ≠ (.slice Ao20 t407.length co20 : Value).ownBlock ∧ some k_ ≠ (.slice Ao28 t421.length co28 : Value).ownBlock) (.slice Ao22 t413.length co22) t413) := ⟨by (with_reducible repeat (first | apply Kd.R_alloc | apply Kd.R_drewN | apply Kd.R_drew)); exact Kd.R_mono (Kd.R_far (p := ⟨gb425, 3, none⟩) (Kd.R_far (p := ⟨gb425, 2, none⟩) (Kd.R_far (p := ⟨gb425, 1, none⟩) (Kd.R_far (p := ⟨gb425, 0, none⟩) (Kd.R_types HO415.out BK425.out (by decide)) (fun _ hk => hk.2) (.string t419)) (fun _ hk => hk.2) (.string t420)) (fun _ hk => hk.2) (.slice Ao28 t421.length co28)) (fun _ hk => hk.2) (.int .i64 t424)) (fun _ hk => ⟨hk.1.1.2, hk.1.2⟩)⟩
        have n2_ : Aside0 (Kd.R k41 41 ((((w24.setCell ⟨gb425, 0, none⟩ (.string t419)).setCell ⟨gb425, 1, none⟩ (.string t420)).setCell ⟨gb425, 2, none⟩ (.slice Ao28 t421.length co28)).setCell ⟨gb425, 3, none⟩ (.int .i64 t424)) w.heap.size (fun k_ => some k_ ≠ (.slice Ao20 t407.length co20 : Value).ownBlock ∧ some k_ ≠ (.slice Ao22 t413.length co22 : Value).ownBlock) (.slice Ao28 t421.length co28) t421) := ⟨by (with_reducible repeat (first | apply Kd.R_alloc | apply Kd.R_drewN | apply Kd.R_drew)); exact Kd.R_mono (Kd.R_far (p := ⟨gb425, 3, none⟩) (Kd.R_far (p := ⟨gb425, 2, none⟩) (Kd.R_far (p := ⟨gb425, 1, none⟩) (Kd.R_far (p := ⟨gb425, 0, none⟩) (Kd.R_types HO423.out BK425.out (by decide)) (fun _ hk => hk.2) (.string t419)) (fun _ hk => hk.2) (.string t420)) (fun _ hk => hk.2) (.slice Ao28 t421.length co28)) (fun _ hk => hk.2) (.int .i64 t424)) (fun _ hk => ⟨hk.1.1.2, hk.1.2⟩)⟩
        have n3_ : Aside0 (((((w24.setCell ⟨gb425, 0, none⟩ (.string t419)).setCell ⟨gb425, 1, none⟩ (.string t420)).setCell ⟨gb425, 2, none⟩ (.slice Ao28 t421.length co28)).setCell ⟨gb425, 3, none⟩ (.int .i64 t424)).heap[gb417]? = some (.cells #[.string t405, .string t406, .slice Ao20 t407.length co20, .int .i64 t410] 35 (0, 0))) := ⟨by (repeat ((with_reducible repeat (first | refine blk_drewN ?_ _ | refine blk_drew ?_ | refine blk_alloc ?_ _)); with_reducible refine blk_far ?_ NB417_425.out _)); (with_reducible repeat (first | refine blk_drewN ?_ _ | refine blk_drew ?_ | refine blk_alloc ?_ _)); exact BK417.out⟩
        have n4_ : Aside0 (((((w24.setCell ⟨gb425, 0, none⟩ (.string t419)).setCell ⟨gb425, 1, none⟩ (.string t420)).setCell ⟨gb425, 2, none⟩ (.slice Ao28 t421.length co28)).setCell ⟨gb425, 3, none⟩ (.int .i64 t424)).heap[gb418]? = some (.cells #[.string t411, .string t412, .slice Ao22 t413.length co22, .int .i64 t416] 35 (0, 0))) := ⟨by (repeat ((with_reducible repeat (first | refine blk_drewN ?_ _ | refine blk_drew ?_ | refine blk_alloc ?_ _)); with_reducible refine blk_far ?_ NB418_425.out _)); (with_reducible repeat (first | refine blk_drewN ?_ _ | refine blk_drew ?_ | refine blk_alloc ?_ _)); exact BK418.out⟩
        have n5_ : Aside0 (((((w24.setCell ⟨gb425, 0, none⟩ (.string t419)).setCell ⟨gb425, 1, none⟩ (.string t420)).setCell ⟨gb425, 2, none⟩ (.slice Ao28 t421.length co28)).setCell ⟨gb425, 3, none⟩ (.int .i64 t424)).heap[gb425]? = some (.cells #[.string t419, .string t420, .slice Ao28 t421.length co28, .int .i64 t424] 35 (0, 0))) := ⟨by (with_reducible repeat (first | refine blk_drewN ?_ _ | refine blk_drew ?_ | refine blk_alloc ?_ _)); refine blk_put (cs := #[.string t419, .string t420, .slice Ao28 t421.length co28, .int .i64 0]) ?_ 3 _ rfl; (with_reducible repeat (first | refine blk_drewN ?_ _ | refine blk_drew ?_ | refine blk_alloc ?_ _)); refine blk_put (cs := #[.string t419, .string t420, .slice none 0 0, .int .i64 0]) ?_ 2 _ rfl; (with_reducible repeat (first | refine blk_drewN ?_ _ | refine blk_drew ?_ | refine blk_alloc ?_ _)); refine blk_put (cs := #[.string t419, .string (⟨#[]⟩ : ByteArray), .slice none 0 0, .int .i64 0]) ?_ 1 _ rfl; (with_reducible repeat (first | refine blk_drewN ?_ _ | refine blk_drew ?_ | refine blk_alloc ?_ _)); refine blk_put (cs := #[.string (⟨#[]⟩ : ByteArray), .string (⟨#[]⟩ : ByteArray), .slice none 0 0, .int .i64 0]) ?_ 0 _ rfl; (with_reducible repeat (first | refine blk_drewN ?_ _ | refine blk_drew ?_ | refine blk_alloc ?_ _)); exact BK425.out⟩
        have n6_ : Aside0 (Below w.heap.size w ((((w24.setCell ⟨gb425, 0, none⟩ (.string t419)).setCell ⟨gb425, 1, none⟩ (.string t420)).setCell ⟨gb425, 2, none⟩ (.slice Ao28 t421.length co28)).setCell ⟨gb425, 3, none⟩ (.int .i64 t424))) := ⟨by repeat (first | (with_reducible first | exact HB.out | apply below_alloc | apply pw_below_drewN | apply below_drew1 | refine below_set ?_ GE417.out | refine below_set ?_ GE418.out | refine below_set ?_ GE425.out) | exact HB.out)⟩
        (try clear HO409)
        (try clear HO415)
        (try clear HO423)
        (try clear BK417)
        (try clear BK418)
        (try clear BK425)
        (try clear HB)
        (repeat rw [setCell_drewN_])
        (repeat rw [World.drewN_drewN])
        generalize ((((w24.setCell ⟨gb425, 0, none⟩ (.string t419)).setCell ⟨gb425, 1, none⟩ (.string t420)).setCell ⟨gb425, 2, none⟩ (.slice Ao28 t421.length co28)).setCell ⟨gb425, 3, none⟩ (.int .i64 t424)) = w32 at n0_ n1_ n2_ n3_ n4_ n5_ n6_ ⊢
        have HO409 := n0_
        have HO415 := n1_
        have HO423 := n2_
        have BK417 := n3_
        have BK418 := n4_
        have BK425 := n5_
        have HB := n6_
        clear n0_ n1_ n2_ n3_ n4_ n5_ n6_
        replace HO409 := Aside0.mk (Kd.R_drew HO409.out)
        replace HO415 := Aside0.mk (Kd.R_drew HO415.out)
        replace HO423 := Aside0.mk (Kd.R_drew HO423.out)
        replace BK417 := Aside0.mk (blk_drew BK417.out)
        replace BK418 := Aside0.mk (blk_drew BK418.out)
        replace BK425 := Aside0.mk (blk_drew BK425.out)
        replace HB := Aside0.mk (below_drew1 HB.out)
        refine start_ (n := 13) (S := fun w' => w'.cell? ⟨gb417, 0, none⟩ = some (.string t405) ∧ w'.cell? ⟨gb417, 1, none⟩ = some (.string t406) ∧ w'.cell? ⟨gb417, 2, none⟩ = some (.slice Ao20 t407.length co20) ∧ w'.cell? ⟨gb417, 3, none⟩ = some (.int .i64 t410) ∧ w'.cell? ⟨gb418, 0, none⟩ = some (.string t411) ∧ w'.cell? ⟨gb418, 1, none⟩ = some (.string t412) ∧ w'.cell? ⟨gb418, 2, none⟩ = some (.slice Ao22 t413.length co22) ∧ w'.cell? ⟨gb418, 3, none⟩ = some (.int .i64 t416)) (ds := []) #[false, false, false, false, false, false, false, false, false, false, false, false, false] (by kernel_rfl) rfl rfl ⟨bc BK417 0, bc BK417 1, bc BK417 2, bc BK417 3, bc BK418 0, bc BK418 1, bc BK418 2, bc BK418 3⟩ (fun hHeld => ?_); refine with_tabW damperlaw2_SpecSame.tab5 damperlaw2_SpecSame.bits5 (fun HT_ HW_ => ?_)
        generalize w32.drew = w33 at HO409 HO415 HO423 BK417 BK418 BK425 HB hHeld ⊢
        refine take_ (i := 0) (N := some 31) (v := ?_) (a' := ?_) #[true, false, false, false, false, false, false, false, false, false, false, false, false] rfl rfl (take_ofW HT_.out HW_.out (by kernel_rfl)) (fun _ _ _ h => h) (Or.inl ⟨by rfl, ?_⟩) hHeld ?_ ?_
        rotate_left
        · rintro w' ⟨s0, s1, s2, s3, s4, s5, s6, s7⟩
          go_simp
          with_reducible rfl
        rotate_left
        · simp only [Act.put, List.setIfInBounds_toArray, List.set_cons_zero, List.set_cons_succ, i64_w, i32_w]
          rfl
        refine take_ (i := 1) (N := some 32) (v := ?_) (a' := ?_) #[true, true, false, false, false, false, false, false, false, false, false, false, false] rfl rfl (take_ofW HT_.out HW_.out (by kernel_rfl)) (fun _ _ _ h => h) (Or.inl ⟨by rfl, ?_⟩) hHeld ?_ ?_
        rotate_left
        · rintro w' ⟨s0, s1, s2, s3, s4, s5, s6, s7⟩
          go_simp
          with_reducible rfl
        rotate_left
        · simp only [Act.put, List.setIfInBounds_toArray, List.set_cons_zero, List.set_cons_succ, i64_w, i32_w]
          rfl
        refine take_ (i := 3) (N := some 34) (v := ?_) (a' := ?_) #[true, true, false, true, false, false, false, false, false, false, false, false, false] rfl rfl (take_ofW HT_.out HW_.out (by kernel_rfl)) (fun _ _ _ h => h) (Or.inl ⟨by rfl, ?_⟩) hHeld ?_ ?_
        rotate_left
        · rintro w' ⟨s0, s1, s2, s3, s4, s5, s6, s7⟩
          go_simp
          with_reducible rfl
        rotate_left
        · simp only [Act.put, List.setIfInBounds_toArray, List.set_cons_zero, List.set_cons_succ, i64_w, i32_w]
          rfl
        refine take_ (i := 4) (N := some 35) (v := ?_) (a' := ?_) #[true, true, false, true, true, false, false, false, false, false, false, false, false] rfl rfl (take_ofW HT_.out HW_.out (by kernel_rfl)) (fun _ _ _ h => h) (Or.inl ⟨by rfl, ?_⟩) hHeld ?_ ?_
        rotate_left
        · rintro w' ⟨s0, s1, s2, s3, s4, s5, s6, s7⟩
          go_simp
          with_reducible rfl
        rotate_left
        · simp only [Act.put, List.setIfInBounds_toArray, List.set_cons_zero, List.set_cons_succ, i64_w, i32_w]
          rfl
        refine one_ (i := 2) (N := some 33) #[true, true, true, true, true, false, false, false, false, false, false, false, false] rfl rfl (one_of HT_.out (by kernel_rfl)) (by decide) (fun K hK => ?_)
        refine goes_ Tryd.func22 (by kernel_rfl) rfl #[.agg #[.string t405, .string t406, .slice Ao20 t407.length co20, .int .i64 t410], .agg #[.string t411, .string t412, .slice Ao22 t413.length co22, .int .i64 t416]] (by rfl) rfl rfl (by (try simp only [List.map_toArray, List.map_cons, List.map_nil]); first | done | rfl | (simp only [List.length_drop, List.length_take]; rfl)) ?_
        with_reducible refine (spec_SameRoute.calls t405 t406 _ _ t407 t410 t411 t412 _ _ t413 t416 t426 _ ?side1 ?side2 ?side3 ?side4 A29.out).mono ?_
        (case side1 => repeat (first | exact (Kd.R_reads' HO409.out).2.2 | (with_reducible refine Kd.C_alloc ?_ _) | (with_reducible refine Kd.C_drewN ?_ _) | (with_reducible refine Kd.C_drew ?_)))
        (case side2 => exact (Kd.R_reads' HO409.out).2.1)
        (case side3 => repeat (first | exact (Kd.R_reads' HO415.out).2.2 | (with_reducible refine Kd.C_alloc ?_ _) | (with_reducible refine Kd.C_drewN ?_ _) | (with_reducible refine Kd.C_drew ?_)))
        (case side4 => exact (Kd.R_reads' HO415.out).2.1)
        rintro e w34 ⟨rfl, hb⟩
        refine ⟨_, rfl, ?_⟩
        replace HO409 := Aside0.mk (Kd.R_below (by (with_reducible repeat (first | apply Kd.R_alloc | apply Kd.R_drewN | apply Kd.R_drew)); exact HO409.out) hb)
        replace HO415 := Aside0.mk (Kd.R_below (by (with_reducible repeat (first | apply Kd.R_alloc | apply Kd.R_drewN | apply Kd.R_drew)); exact HO415.out) hb)
        replace HO423 := Aside0.mk (Kd.R_below (by (with_reducible repeat (first | apply Kd.R_alloc | apply Kd.R_drewN | apply Kd.R_drew)); exact HO423.out) hb)
        replace BK417 := Aside0.mk (blk_below (g := gb417) (pk BK417) hb)
        replace BK418 := Aside0.mk (blk_below (g := gb418) (pk BK418) hb)
        replace BK425 := Aside0.mk (blk_below (g := gb425) (pk BK425) hb)
        replace HB := Aside0.mk (below_step (by repeat (first | (with_reducible first | exact HB.out | apply below_alloc | apply pw_below_drewN | apply below_drew1 | refine below_set ?_ GE417.out | refine below_set ?_ GE418.out | refine below_set ?_ GE425.out) | exact HB.out)) hb)
        (try clear hb)
        (try clear hb2)
        (try clear hk)
        (try clear hi)
        refine hK.out _ _ ⟨bc BK417 0, bc BK417 1, bc BK417 2, bc BK417 3, bc BK418 0, bc BK418 1, bc BK418 2, bc BK418 3⟩ (fun hHeld => ?_)
        clear hK K
        refine norm_ (a' := ?_) ?_ ?_
        rotate_left
        · show Act.put _ (some 33) _ = _
          simp only [Act.put, List.setIfInBounds_toArray, List.set_cons_zero, List.set_cons_succ, i64_w, i32_w]
          rfl
        refine one_ (i := 5) (N := some 36) #[true, true, true, true, true, true, false, false, false, false, false, false, false] rfl rfl (one_of HT_.out (by kernel_rfl)) (by decide) (fun K hK => ?_)
        refine goes_ Tryd.func23 (by kernel_rfl) rfl #[.agg #[.string t405, .string t406, .slice Ao20 t407.length co20, .int .i64 t410], .agg #[.string t411, .string t412, .slice Ao22 t413.length co22, .int .i64 t416]] (by rfl) rfl rfl (by (try simp only [List.map_toArray, List.map_cons, List.map_nil]); first | done | rfl | (simp only [List.length_drop, List.length_take]; rfl)) ?_
        with_reducible refine (damperref2_SameRoute.calls k t405 t406 _ _ t407 t410 t411 t412 _ _ t413 t416 t427 _ ?side1 ?side2 ?side3 ?side4 A30.out).mono ?_
        (case side1 => repeat (first | exact (Kd.R_reads' HO409.out).2.2 | (with_reducible refine Kd.C_alloc ?_ _) | (with_reducible refine Kd.C_drewN ?_ _) | (with_reducible refine Kd.C_drew ?_)))
        (case side2 => exact (Kd.R_reads' HO409.out).2.1)
        (case side3 => repeat (first | exact (Kd.R_reads' HO415.out).2.2 | (with_reducible refine Kd.C_alloc ?_ _) | (with_reducible refine Kd.C_drewN ?_ _) | (with_reducible refine Kd.C_drew ?_)))
        (case side4 => exact (Kd.R_reads' HO415.out).2.1)
        rintro e w35 ⟨rfl, hb⟩
        refine ⟨_, rfl, ?_⟩
        replace HO409 := Aside0.mk (Kd.R_below (by (with_reducible repeat (first | apply Kd.R_alloc | apply Kd.R_drewN | apply Kd.R_drew)); exact HO409.out) hb)
        replace HO415 := Aside0.mk (Kd.R_below (by (with_reducible repeat (first | apply Kd.R_alloc | apply Kd.R_drewN | apply Kd.R_drew)); exact HO415.out) hb)
        replace HO423 := Aside0.mk (Kd.R_below (by (with_reducible repeat (first | apply Kd.R_alloc | apply Kd.R_drewN | apply Kd.R_drew)); exact HO423.out) hb)
        replace BK417 := Aside0.mk (blk_below (g := gb417) (pk BK417) hb)
        replace BK418 := Aside0.mk (blk_below (g := gb418) (pk BK418) hb)
        replace BK425 := Aside0.mk (blk_below (g := gb425) (pk BK425) hb)
        replace HB := Aside0.mk (below_step (by repeat (first | (with_reducible first | exact HB.out | apply below_alloc | apply pw_below_drewN | apply below_drew1 | refine below_set ?_ GE417.out | refine below_set ?_ GE418.out | refine below_set ?_ GE425.out) | exact HB.out)) hb)
        (try clear hb)
        (try clear hb2)
        (try clear hk)
        (try clear hi)
        refine hK.out _ _ ⟨bc BK417 0, bc BK417 1, bc BK417 2, bc BK417 3, bc BK418 0, bc BK418 1, bc BK418 2, bc BK418 3⟩ (fun hHeld => ?_)
        clear hK K
        refine norm_ (a' := ?_) ?_ ?_
        rotate_left
        · show Act.put _ (some 36) _ = _
          simp only [Act.put, List.setIfInBounds_toArray, List.set_cons_zero, List.set_cons_succ, i64_w, i32_w]
          rfl
        refine pure_ (i := 6) (N := some 37) (v := ?_) (a' := ?_) #[true, true, true, true, true, true, true, false, false, false, false, false, false] rfl rfl (any_of HT_.out (by kernel_rfl)) (fun _ _ _ h => h) (Or.inl ⟨by rfl, ?_⟩) ?_ ?_
        rotate_left
        · intro w'
          go_simp
          with_reducible rfl
        rotate_left
        · simp only [Act.put, List.setIfInBounds_toArray, List.set_cons_zero, List.set_cons_succ, i64_w, i32_w]
          rfl
        refine pure_ (i := 7) (N := some 38) (v := ?_) (a' := ?_) #[true, true, true, true, true, true, true, true, false, false, false, false, false] rfl rfl (any_of HT_.out (by kernel_rfl)) (fun _ _ _ h => h) (Or.inl ⟨by rfl, ?_⟩) ?_ ?_
        rotate_left
        · intro w'
          go_simp
          with_reducible rfl
        rotate_left
        · simp only [Act.put, List.setIfInBounds_toArray, List.set_cons_zero, List.set_cons_succ, i64_w, i32_w]
          rfl
        refine pure_ (i := 8) (N := some 39) (v := undef) (a' := ?_) #[true, true, true, true, true, true, true, true, true, false, false, false, false] rfl rfl (any_of HT_.out (by kernel_rfl)) (fun _ _ _ h => h) (Or.inr ⟨by rfl, rfl⟩) ?_ ?_
        rotate_left
        · simp only [Act.put, List.setIfInBounds_toArray, List.set_cons_zero, List.set_cons_succ, i64_w, i32_w]
          rfl
        refine pure_ (i := 9) (N := some 40) (v := undef) (a' := ?_) #[true, true, true, true, true, true, true, true, true, true, false, false, false] rfl rfl (any_of HT_.out (by kernel_rfl)) (fun _ _ _ h => h) (Or.inr ⟨by rfl, rfl⟩) ?_ ?_
        rotate_left
        · simp only [Act.put, List.setIfInBounds_toArray, List.set_cons_zero, List.set_cons_succ, i64_w, i32_w]
          rfl
        refine pure_ (i := 10) (N := some 41) (v := undef) (a' := ?_) #[true, true, true, true, true, true, true, true, true, true, true, false, false] rfl rfl (any_of HT_.out (by kernel_rfl)) (fun _ _ _ h => h) (Or.inr ⟨by rfl, rfl⟩) ?_ ?_
        rotate_left
        · simp only [Act.put, List.setIfInBounds_toArray, List.set_cons_zero, List.set_cons_succ, i64_w, i32_w]
          rfl
        refine pure_ (i := 11) (N := some 42) (v := undef) (a' := ?_) #[true, true, true, true, true, true, true, true, true, true, true, true, false] rfl rfl (any_of HT_.out (by kernel_rfl)) (fun _ _ _ h => h) (Or.inr ⟨by rfl, rfl⟩) ?_ ?_
        rotate_left
        · simp only [Act.put, List.setIfInBounds_toArray, List.set_cons_zero, List.set_cons_succ, i64_w, i32_w]
          rfl
        refine pure_ (i := 12) (N := some 43) (v := ?_) (a' := ?_) #[true, true, true, true, true, true, true, true, true, true, true, true, true] rfl rfl (any_of HT_.out (by kernel_rfl)) (fun _ _ _ h => h) (Or.inl ⟨by rfl, ?_⟩) ?_ ?_
        rotate_left
        · intro w'
          go_simp
          with_reducible rfl
        rotate_left
        · simp only [Act.put, List.setIfInBounds_toArray, List.set_cons_zero, List.set_cons_succ, i64_w, i32_w]
          rfl
        refine done_ (done_of HT_.out (by kernel_rfl)) ?_
        try go_wp2_with (first | (go_at_call 15; refine (damperlaw2_within.keep _ _ rfl (by first | decide | assumption | exact wi_ne (by assumption) | exact wi_ne' (by assumption) | omega) _).mono ?_; rintro e w' ⟨rfl, rfl⟩))
        go_meet
        case rel => exact ⟨_, (true), (by first | rfl | (simp; done) | (simp [*]; done)), H', ⟨by first | omega | exact Nat.le_refl _⟩, ⟨by (with_reducible repeat (first | apply Kd.R_alloc | apply Kd.R_drewN | apply Kd.R_drew)); exact HO409.out⟩, ⟨by (with_reducible repeat (first | apply Kd.R_alloc | apply Kd.R_drewN | apply Kd.R_drew)); exact HO415.out⟩, ⟨by (with_reducible repeat (first | apply Kd.R_alloc | apply Kd.R_drewN | apply Kd.R_drew)); exact HO423.out⟩, ⟨by (with_reducible repeat (first | refine blk_drewN ?_ _ | refine blk_drew ?_ | refine blk_alloc ?_ _)); exact BK417.out⟩, ⟨by (with_reducible repeat (first | refine blk_drewN ?_ _ | refine blk_drew ?_ | refine blk_alloc ?_ _)); exact BK418.out⟩, ⟨by (with_reducible repeat (first | refine blk_drewN ?_ _ | refine blk_drew ?_ | refine blk_alloc ?_ _)); exact BK425.out⟩, ⟨by repeat (first | (with_reducible first | exact HB.out | apply below_alloc | apply pw_below_drewN | apply below_drew1 | refine below_set ?_ GE417.out | refine below_set ?_ GE418.out | refine below_set ?_ GE425.out) | exact HB.out)⟩⟩
      · rw [if_neg c31] at H
        have c31b0 : (t426 != t427) = false := by simpa using c31
        (try (have c31b1 : decide (t426 = t427) = true := by simpa using c31))
        (try (have c31b2 : (t426 == t427) = true := by simpa using c31))
        clear c31
        (first | rw [c31b0] | (simp only [i64_w, i32_w]; rw [c31b0]) | rw [c31b1] | skip)
        replace H := Option.bind_eq_some_iff.mp H
        obtain ⟨t428, A360, H⟩ := H
        replace H : (damperlaw2_SpecSame.j0 k a4 a5 (!t428) t405 t406 t407 t410 t419 t420 t421 t424) = some r := H
        have A36 := Aside0.mk A360
        clear A360
        have H' := Aside0.mk H
        clear H
        try go_wp2_with (first | (go_at_call 15; refine (damperlaw2_within.keep _ _ rfl (by first | decide | assumption | exact wi_ne (by assumption) | exact wi_ne' (by assumption) | omega) _).mono ?_; rintro e w' ⟨rfl, rfl⟩))
        have n0_ : Aside0 (Kd.R k41 41 ((((w24.setCell ⟨gb425, 0, none⟩ (.string t419)).setCell ⟨gb425, 1, none⟩ (.string t420)).setCell ⟨gb425, 2, none⟩ (.slice Ao28 t421.length co28)).setCell ⟨gb425, 3, none⟩ (.int .i64 t424)) w.heap.size (fun k_ => some k_ ≠ (.slice Ao22 t413.length co22 : Value).ownBlock ∧ some k_ ≠ (.slice Ao28 t421.length co28 : Value).ownBlock) (.slice Ao20 t407.length co20) t407) := ⟨by (with_reducible repeat (first | apply Kd.R_alloc | apply Kd.R_drewN | apply Kd.R_drew)); exact Kd.R_mono (Kd.R_far (p := ⟨gb425, 3, none⟩) (Kd.R_far (p := ⟨gb425, 2, none⟩) (Kd.R_far (p := ⟨gb425, 1, none⟩) (Kd.R_far (p := ⟨gb425, 0, none⟩) (Kd.R_types HO409.out BK425.out (by decide)) (fun _ hk => hk.2) (.string t419)) (fun _ hk => hk.2) (.string t420)) (fun _ hk => hk.2) (.slice Ao28 t421.length co28)) (fun _ hk => hk.2) (.int .i64 t424)) (fun _ hk => ⟨hk.1.1.2, hk.1.2⟩)⟩
        have n1_ : Aside0 (Kd.R k41 41 ((((w24.setCell ⟨gb425, 0, none⟩ (.string t419)).setCell ⟨gb425, 1, none⟩ (.string t420)).setCell ⟨gb425, 2, none⟩ (.slice Ao28 t421.length co28)).setCell ⟨gb425, 3, none⟩ (.int .i64 t424)) w.heap.size (fun k_ => some k_ ≠ (.slice Ao20 t407.length co20 : Value).ownBlock ∧ some k_ ≠ (.slice Ao28 t421.length co28 : Value).ownBlock) (.slice Ao22 t413.length co22) t413) := ⟨by (with_reducible repeat (first | apply Kd.R_alloc | apply Kd.R_drewN | apply Kd.R_drew)); exact Kd.R_mono (Kd.R_far (p := ⟨gb425, 3, none⟩) (Kd.R_far (p := ⟨gb425, 2, none⟩) (Kd.R_far (p := ⟨gb425, 1, none⟩) (Kd.R_far (p := ⟨gb425, 0, none⟩) (Kd.R_types HO415.out BK425.out (by decide)) (fun _ hk => hk.2) (.string t419)) (fun _ hk => hk.2) (.string t420)) (fun _ hk => hk.2) (.slice Ao28 t421.length co28)) (fun _ hk => hk.2) (.int .i64 t424)) (fun _ hk => ⟨hk.1.1.2, hk.1.2⟩)⟩
        have n2_ : Aside0 (Kd.R k41 41 ((((w24.setCell ⟨gb425, 0, none⟩ (.string t419)).setCell ⟨gb425, 1, none⟩ (.string t420)).setCell ⟨gb425, 2, none⟩ (.slice Ao28 t421.length co28)).setCell ⟨gb425, 3, none⟩ (.int .i64 t424)) w.heap.size (fun k_ => some k_ ≠ (.slice Ao20 t407.length co20 : Value).ownBlock ∧ some k_ ≠ (.slice Ao22 t413.length co22 : Value).ownBlock) (.slice Ao28 t421.length co28) t421) := ⟨by (with_reducible repeat (first | apply Kd.R_alloc | apply Kd.R_drewN | apply Kd.R_drew)); exact Kd.R_mono (Kd.R_far (p := ⟨gb425, 3, none⟩) (Kd.R_far (p := ⟨gb425, 2, none⟩) (Kd.R_far (p := ⟨gb425, 1, none⟩) (Kd.R_far (p := ⟨gb425, 0, none⟩) (Kd.R_types HO423.out BK425.out (by decide)) (fun _ hk => hk.2) (.string t419)) (fun _ hk => hk.2) (.string t420)) (fun _ hk => hk.2) (.slice Ao28 t421.length co28)) (fun _ hk => hk.2) (.int .i64 t424)) (fun _ hk => ⟨hk.1.1.2, hk.1.2⟩)⟩
        have n3_ : Aside0 (((((w24.setCell ⟨gb425, 0, none⟩ (.string t419)).setCell ⟨gb425, 1, none⟩ (.string t420)).setCell ⟨gb425, 2, none⟩ (.slice Ao28 t421.length co28)).setCell ⟨gb425, 3, none⟩ (.int .i64 t424)).heap[gb417]? = some (.cells #[.string t405, .string t406, .slice Ao20 t407.length co20, .int .i64 t410] 35 (0, 0))) := ⟨by (repeat ((with_reducible repeat (first | refine blk_drewN ?_ _ | refine blk_drew ?_ | refine blk_alloc ?_ _)); with_reducible refine blk_far ?_ NB417_425.out _)); (with_reducible repeat (first | refine blk_drewN ?_ _ | refine blk_drew ?_ | refine blk_alloc ?_ _)); exact BK417.out⟩
        have n4_ : Aside0 (((((w24.setCell ⟨gb425, 0, none⟩ (.string t419)).setCell ⟨gb425, 1, none⟩ (.string t420)).setCell ⟨gb425, 2, none⟩ (.slice Ao28 t421.length co28)).setCell ⟨gb425, 3, none⟩ (.int .i64 t424)).heap[gb418]? = some (.cells #[.string t411, .string t412, .slice Ao22 t413.length co22, .int .i64 t416] 35 (0, 0))) := ⟨by (repeat ((with_reducible repeat (first | refine blk_drewN ?_ _ | refine blk_drew ?_ | refine blk_alloc ?_ _)); with_reducible refine blk_far ?_ NB418_425.out _)); (with_reducible repeat (first | refine blk_drewN ?_ _ | refine blk_drew ?_ | refine blk_alloc ?_ _)); exact BK418.out⟩
        have n5_ : Aside0 (((((w24.setCell ⟨gb425, 0, none⟩ (.string t419)).setCell ⟨gb425, 1, none⟩ (.string t420)).setCell ⟨gb425, 2, none⟩ (.slice Ao28 t421.length co28)).setCell ⟨gb425, 3, none⟩ (.int .i64 t424)).heap[gb425]? = some (.cells #[.string t419, .string t420, .slice Ao28 t421.length co28, .int .i64 t424] 35 (0, 0))) := ⟨by (with_reducible repeat (first | refine blk_drewN ?_ _ | refine blk_drew ?_ | refine blk_alloc ?_ _)); refine blk_put (cs := #[.string t419, .string t420, .slice Ao28 t421.length co28, .int .i64 0]) ?_ 3 _ rfl; (with_reducible repeat (first | refine blk_drewN ?_ _ | refine blk_drew ?_ | refine blk_alloc ?_ _)); refine blk_put (cs := #[.string t419, .string t420, .slice none 0 0, .int .i64 0]) ?_ 2 _ rfl; (with_reducible repeat (first | refine blk_drewN ?_ _ | refine blk_drew ?_ | refine blk_alloc ?_ _)); refine blk_put (cs := #[.string t419, .string (⟨#[]⟩ : ByteArray), .slice none 0 0, .int .i64 0]) ?_ 1 _ rfl; (with_reducible repeat (first | refine blk_drewN ?_ _ | refine blk_drew ?_ | refine blk_alloc ?_ _)); refine blk_put (cs := #[.string (⟨#[]⟩ : ByteArray), .string (⟨#[]⟩ : ByteArray), .slice none 0 0, .int .i64 0]) ?_ 0 _ rfl; (with_reducible repeat (first | refine blk_drewN ?_ _ | refine blk_drew ?_ | refine blk_alloc ?_ _)); exact BK425.out⟩
        have n6_ : Aside0 (Below w.heap.size w ((((w24.setCell ⟨gb425, 0, none⟩ (.string t419)).setCell ⟨gb425, 1, none⟩ (.string t420)).setCell ⟨gb425, 2, none⟩ (.slice Ao28 t421.length co28)).setCell ⟨gb425, 3, none⟩ (.int .i64 t424))) := ⟨by repeat (first | (with_reducible first | exact HB.out | apply below_alloc | apply pw_below_drewN | apply below_drew1 | refine below_set ?_ GE417.out | refine below_set ?_ GE418.out | refine below_set ?_ GE425.out) | exact HB.out)⟩
        (try clear HO409)
        (try clear HO415)
        (try clear HO423)
        (try clear BK417)
        (try clear BK418)
        (try clear BK425)
        (try clear HB)
        (repeat rw [setCell_drewN_])
        (repeat rw [World.drewN_drewN])
        generalize ((((w24.setCell ⟨gb425, 0, none⟩ (.string t419)).setCell ⟨gb425, 1, none⟩ (.string t420)).setCell ⟨gb425, 2, none⟩ (.slice Ao28 t421.length co28)).setCell ⟨gb425, 3, none⟩ (.int .i64 t424)) = w37 at n0_ n1_ n2_ n3_ n4_ n5_ n6_ ⊢
        have HO409 := n0_
        have HO415 := n1_
        have HO423 := n2_
        have BK417 := n3_
        have BK418 := n4_
        have BK425 := n5_
        have HB := n6_
        clear n0_ n1_ n2_ n3_ n4_ n5_ n6_
        replace HO409 := Aside0.mk (Kd.R_drew HO409.out)
        replace HO415 := Aside0.mk (Kd.R_drew HO415.out)
        replace HO423 := Aside0.mk (Kd.R_drew HO423.out)
        replace BK417 := Aside0.mk (blk_drew BK417.out)
        replace BK418 := Aside0.mk (blk_drew BK418.out)
        replace BK425 := Aside0.mk (blk_drew BK425.out)
        replace HB := Aside0.mk (below_drew1 HB.out)
        refine start_ (n := 13) (S := fun w' => w'.cell? ⟨gb417, 0, none⟩ = some (.string t405) ∧ w'.cell? ⟨gb417, 1, none⟩ = some (.string t406) ∧ w'.cell? ⟨gb417, 2, none⟩ = some (.slice Ao20 t407.length co20) ∧ w'.cell? ⟨gb417, 3, none⟩ = some (.int .i64 t410) ∧ w'.cell? ⟨gb418, 0, none⟩ = some (.string t411) ∧ w'.cell? ⟨gb418, 1, none⟩ = some (.string t412) ∧ w'.cell? ⟨gb418, 2, none⟩ = some (.slice Ao22 t413.length co22) ∧ w'.cell? ⟨gb418, 3, none⟩ = some (.int .i64 t416) ∧ w'.cell? ⟨gb425, 0, none⟩ = some (.string t419) ∧ w'.cell? ⟨gb425, 1, none⟩ = some (.string t420) ∧ w'.cell? ⟨gb425, 2, none⟩ = some (.slice Ao28 t421.length co28) ∧ w'.cell? ⟨gb425, 3, none⟩ = some (.int .i64 t424)) (ds := []) #[false, false, false, false, false, false, false, false, false, false, false, false, false] (by kernel_rfl) rfl rfl ⟨bc BK417 0, bc BK417 1, bc BK417 2, bc BK417 3, bc BK418 0, bc BK418 1, bc BK418 2, bc BK418 3, bc BK425 0, bc BK425 1, bc BK425 2, bc BK425 3⟩ (fun hHeld => ?_); refine with_tabW damperlaw2_SpecSame.tab5 damperlaw2_SpecSame.bits5 (fun HT_ HW_ => ?_)
        generalize w37.drew = w38 at HO409 HO415 HO423 BK417 BK418 BK425 HB hHeld ⊢
        refine take_ (i := 0) (N := some 31) (v := ?_) (a' := ?_) #[true, false, false, false, false, false, false, false, false, false, false, false, false] rfl rfl (take_ofW HT_.out HW_.out (by kernel_rfl)) (fun _ _ _ h => h) (Or.inl ⟨by rfl, ?_⟩) hHeld ?_ ?_
        rotate_left
        · rintro w' ⟨s0, s1, s2, s3, s4, s5, s6, s7, s8, s9, s10, s11⟩
          go_simp
          with_reducible rfl
        rotate_left
        · simp only [Act.put, List.setIfInBounds_toArray, List.set_cons_zero, List.set_cons_succ, i64_w, i32_w]
          rfl
        refine take_ (i := 1) (N := some 32) (v := ?_) (a' := ?_) #[true, true, false, false, false, false, false, false, false, false, false, false, false] rfl rfl (take_ofW HT_.out HW_.out (by kernel_rfl)) (fun _ _ _ h => h) (Or.inl ⟨by rfl, ?_⟩) hHeld ?_ ?_
        rotate_left
        · rintro w' ⟨s0, s1, s2, s3, s4, s5, s6, s7, s8, s9, s10, s11⟩
          go_simp
          with_reducible rfl
        rotate_left
        · simp only [Act.put, List.setIfInBounds_toArray, List.set_cons_zero, List.set_cons_succ, i64_w, i32_w]
          rfl
        refine take_ (i := 3) (N := some 34) (v := ?_) (a' := ?_) #[true, true, false, true, false, false, false, false, false, false, false, false, false] rfl rfl (take_ofW HT_.out HW_.out (by kernel_rfl)) (fun _ _ _ h => h) (Or.inl ⟨by rfl, ?_⟩) hHeld ?_ ?_
        rotate_left
        · rintro w' ⟨s0, s1, s2, s3, s4, s5, s6, s7, s8, s9, s10, s11⟩
          go_simp
          with_reducible rfl
        rotate_left
        · simp only [Act.put, List.setIfInBounds_toArray, List.set_cons_zero, List.set_cons_succ, i64_w, i32_w]
          rfl
        refine take_ (i := 4) (N := some 35) (v := ?_) (a' := ?_) #[true, true, false, true, true, false, false, false, false, false, false, false, false] rfl rfl (take_ofW HT_.out HW_.out (by kernel_rfl)) (fun _ _ _ h => h) (Or.inl ⟨by rfl, ?_⟩) hHeld ?_ ?_
        rotate_left
        · rintro w' ⟨s0, s1, s2, s3, s4, s5, s6, s7, s8, s9, s10, s11⟩
          go_simp
          with_reducible rfl
        rotate_left
        · simp only [Act.put, List.setIfInBounds_toArray, List.set_cons_zero, List.set_cons_succ, i64_w, i32_w]
          rfl
        refine one_ (i := 2) (N := some 33) #[true, true, true, true, true, false, false, false, false, false, false, false, false] rfl rfl (one_of HT_.out (by kernel_rfl)) (by decide) (fun K hK => ?_)
        refine goes_ Tryd.func22 (by kernel_rfl) rfl #[.agg #[.string t405, .string t406, .slice Ao20 t407.length co20, .int .i64 t410], .agg #[.string t411, .string t412, .slice Ao22 t413.length co22, .int .i64 t416]] (by rfl) rfl rfl (by (try simp only [List.map_toArray, List.map_cons, List.map_nil]); first | done | rfl | (simp only [List.length_drop, List.length_take]; rfl)) ?_
        with_reducible refine (spec_SameRoute.calls t405 t406 _ _ t407 t410 t411 t412 _ _ t413 t416 t426 _ ?side1 ?side2 ?side3 ?side4 A29.out).mono ?_
        (case side1 => repeat (first | exact (Kd.R_reads' HO409.out).2.2 | (with_reducible refine Kd.C_alloc ?_ _) | (with_reducible refine Kd.C_drewN ?_ _) | (with_reducible refine Kd.C_drew ?_)))
        (case side2 => exact (Kd.R_reads' HO409.out).2.1)
        (case side3 => repeat (first | exact (Kd.R_reads' HO415.out).2.2 | (with_reducible refine Kd.C_alloc ?_ _) | (with_reducible refine Kd.C_drewN ?_ _) | (with_reducible refine Kd.C_drew ?_)))
        (case side4 => exact (Kd.R_reads' HO415.out).2.1)
        rintro e w39 ⟨rfl, hb⟩
        refine ⟨_, rfl, ?_⟩
        replace HO409 := Aside0.mk (Kd.R_below (by (with_reducible repeat (first | apply Kd.R_alloc | apply Kd.R_drewN | apply Kd.R_drew)); exact HO409.out) hb)
        replace HO415 := Aside0.mk (Kd.R_below (by (with_reducible repeat (first | apply Kd.R_alloc | apply Kd.R_drewN | apply Kd.R_drew)); exact HO415.out) hb)
        replace HO423 := Aside0.mk (Kd.R_below (by (with_reducible repeat (first | apply Kd.R_alloc | apply Kd.R_drewN | apply Kd.R_drew)); exact HO423.out) hb)
        replace BK417 := Aside0.mk (blk_below (g := gb417) (pk BK417) hb)
        replace BK418 := Aside0.mk (blk_below (g := gb418) (pk BK418) hb)
        replace BK425 := Aside0.mk (blk_below (g := gb425) (pk BK425) hb)
        replace HB := Aside0.mk (below_step (by repeat (first | (with_reducible first | exact HB.out | apply below_alloc | apply pw_below_drewN | apply below_drew1 | refine below_set ?_ GE417.out | refine below_set ?_ GE418.out | refine below_set ?_ GE425.out) | exact HB.out)) hb)
        (try clear hb)
        (try clear hb2)
        (try clear hk)
        (try clear hi)
        refine hK.out _ _ ⟨bc BK417 0, bc BK417 1, bc BK417 2, bc BK417 3, bc BK418 0, bc BK418 1, bc BK418 2, bc BK418 3, bc BK425 0, bc BK425 1, bc BK425 2, bc BK425 3⟩ (fun hHeld => ?_)
        clear hK K
        refine norm_ (a' := ?_) ?_ ?_
        rotate_left
        · show Act.put _ (some 33) _ = _
          simp only [Act.put, List.setIfInBounds_toArray, List.set_cons_zero, List.set_cons_succ, i64_w, i32_w]
          rfl
        refine one_ (i := 5) (N := some 36) #[true, true, true, true, true, true, false, false, false, false, false, false, false] rfl rfl (one_of HT_.out (by kernel_rfl)) (by decide) (fun K hK => ?_)
        refine goes_ Tryd.func23 (by kernel_rfl) rfl #[.agg #[.string t405, .string t406, .slice Ao20 t407.length co20, .int .i64 t410], .agg #[.string t411, .string t412, .slice Ao22 t413.length co22, .int .i64 t416]] (by rfl) rfl rfl (by (try simp only [List.map_toArray, List.map_cons, List.map_nil]); first | done | rfl | (simp only [List.length_drop, List.length_take]; rfl)) ?_
        with_reducible refine (damperref2_SameRoute.calls k t405 t406 _ _ t407 t410 t411 t412 _ _ t413 t416 t427 _ ?side1 ?side2 ?side3 ?side4 A30.out).mono ?_
        (case side1 => repeat (first | exact (Kd.R_reads' HO409.out).2.2 | (with_reducible refine Kd.C_alloc ?_ _) | (with_reducible refine Kd.C_drewN ?_ _) | (with_reducible refine Kd.C_drew ?_)))
        (case side2 => exact (Kd.R_reads' HO409.out).2.1)
        (case side3 => repeat (first | exact (Kd.R_reads' HO415.out).2.2 | (with_reducible refine Kd.C_alloc ?_ _) | (with_reducible refine Kd.C_drewN ?_ _) | (with_reducible refine Kd.C_drew ?_)))
        (case side4 => exact (Kd.R_reads' HO415.out).2.1)
        rintro e w40 ⟨rfl, hb⟩
        refine ⟨_, rfl, ?_⟩
        replace HO409 := Aside0.mk (Kd.R_below (by (with_reducible repeat (first | apply Kd.R_alloc | apply Kd.R_drewN | apply Kd.R_drew)); exact HO409.out) hb)
        replace HO415 := Aside0.mk (Kd.R_below (by (with_reducible repeat (first | apply Kd.R_alloc | apply Kd.R_drewN | apply Kd.R_drew)); exact HO415.out) hb)
        replace HO423 := Aside0.mk (Kd.R_below (by (with_reducible repeat (first | apply Kd.R_alloc | apply Kd.R_drewN | apply Kd.R_drew)); exact HO423.out) hb)
        replace BK417 := Aside0.mk (blk_below (g := gb417) (pk BK417) hb)
        replace BK418 := Aside0.mk (blk_below (g := gb418) (pk BK418) hb)
        replace BK425 := Aside0.mk (blk_below (g := gb425) (pk BK425) hb)
        replace HB := Aside0.mk (below_step (by repeat (first | (with_reducible first | exact HB.out | apply below_alloc | apply pw_below_drewN | apply below_drew1 | refine below_set ?_ GE417.out | refine below_set ?_ GE418.out | refine below_set ?_ GE425.out) | exact HB.out)) hb)
        (try clear hb)
        (try clear hb2)
        (try clear hk)
        (try clear hi)
        refine hK.out _ _ ⟨bc BK417 0, bc BK417 1, bc BK417 2, bc BK417 3, bc BK418 0, bc BK418 1, bc BK418 2, bc BK418 3, bc BK425 0, bc BK425 1, bc BK425 2, bc BK425 3⟩ (fun hHeld => ?_)
        clear hK K
        refine norm_ (a' := ?_) ?_ ?_
        rotate_left
        · show Act.put _ (some 36) _ = _
          simp only [Act.put, List.setIfInBounds_toArray, List.set_cons_zero, List.set_cons_succ, i64_w, i32_w]
          rfl
        refine pure_ (i := 6) (N := some 37) (v := ?_) (a' := ?_) #[true, true, true, true, true, true, true, false, false, false, false, false, false] rfl rfl (any_of HT_.out (by kernel_rfl)) (fun _ _ _ h => h) (Or.inl ⟨by rfl, ?_⟩) ?_ ?_
        rotate_left
        · intro w'
          go_simp
          with_reducible rfl
        rotate_left
        · simp only [Act.put, List.setIfInBounds_toArray, List.set_cons_zero, List.set_cons_succ, i64_w, i32_w]
          rfl
        refine pure_ (i := 7) (N := some 38) (v := ?_) (a' := ?_) #[true, true, true, true, true, true, true, true, false, false, false, false, false] rfl rfl (any_of HT_.out (by kernel_rfl)) (fun _ _ _ h => h) (Or.inl ⟨by rfl, ?_⟩) ?_ ?_
        rotate_left
        · intro w'
          go_simp
          with_reducible rfl
        rotate_left
        · simp only [Act.put, List.setIfInBounds_toArray, List.set_cons_zero, List.set_cons_succ, i64_w, i32_w]
          rfl
        refine take_ (i := 8) (N := some 39) (v := ?_) (a' := ?_) #[true, true, true, true, true, true, true, true, true, false, false, false, false] rfl rfl (take_ofW HT_.out HW_.out (by kernel_rfl)) (fun _ _ _ h => h) (Or.inl ⟨by rfl, ?_⟩) hHeld ?_ ?_
        rotate_left
        · rintro w' ⟨s0, s1, s2, s3, s4, s5, s6, s7, s8, s9, s10, s11⟩
          go_simp
          with_reducible rfl
        rotate_left
        · simp only [Act.put, List.setIfInBounds_toArray, List.set_cons_zero, List.set_cons_succ, i64_w, i32_w]
          rfl
        refine take_ (i := 9) (N := some 40) (v := ?_) (a' := ?_) #[true, true, true, true, true, true, true, true, true, true, false, false, false] rfl rfl (take_ofW HT_.out HW_.out (by kernel_rfl)) (fun _ _ _ h => h) (Or.inl ⟨by rfl, ?_⟩) hHeld ?_ ?_
        rotate_left
        · rintro w' ⟨s0, s1, s2, s3, s4, s5, s6, s7, s8, s9, s10, s11⟩
          go_simp
          with_reducible rfl
        rotate_left
        · simp only [Act.put, List.setIfInBounds_toArray, List.set_cons_zero, List.set_cons_succ, i64_w, i32_w]
          rfl
        refine one_ (i := 10) (N := some 41) #[true, true, true, true, true, true, true, true, true, true, true, false, false] rfl rfl (one_of HT_.out (by kernel_rfl)) (by decide) (fun K hK => ?_)
        refine goes_ Tryd.func22 (by kernel_rfl) rfl #[.agg #[.string t405, .string t406, .slice Ao20 t407.length co20, .int .i64 t410], .agg #[.string t419, .string t420, .slice Ao28 t421.length co28, .int .i64 t424]] (by rfl) rfl rfl (by (try simp only [List.map_toArray, List.map_cons, List.map_nil]); first | done | rfl | (simp only [List.length_drop, List.length_take]; rfl)) ?_
        with_reducible refine (spec_SameRoute.calls t405 t406 _ _ t407 t410 t419 t420 _ _ t421 t424 t428 _ ?side1 ?side2 ?side3 ?side4 A36.out).mono ?_
        (case side1 => repeat (first | exact (Kd.R_reads' HO409.out).2.2 | (with_reducible refine Kd.C_alloc ?_ _) | (with_reducible refine Kd.C_drewN ?_ _) | (with_reducible refine Kd.C_drew ?_)))
        (case side2 => exact (Kd.R_reads' HO409.out).2.1)
        (case side3 => repeat (first | exact (Kd.R_reads' HO423.out).2.2 | (with_reducible refine Kd.C_alloc ?_ _) | (with_reducible refine Kd.C_drewN ?_ _) | (with_reducible refine Kd.C_drew ?_)))
        (case side4 => exact (Kd.R_reads' HO423.out).2.1)
        rintro e w41 ⟨rfl, hb⟩
        refine ⟨_, rfl, ?_⟩
        replace HO409 := Aside0.mk (Kd.R_below (by (with_reducible repeat (first | apply Kd.R_alloc | apply Kd.R_drewN | apply Kd.R_drew)); exact HO409.out) hb)
        replace HO415 := Aside0.mk (Kd.R_below (by (with_reducible repeat (first | apply Kd.R_alloc | apply Kd.R_drewN | apply Kd.R_drew)); exact HO415.out) hb)
        replace HO423 := Aside0.mk (Kd.R_below (by (with_reducible repeat (first | apply Kd.R_alloc | apply Kd.R_drewN | apply Kd.R_drew)); exact HO423.out) hb)
        replace BK417 := Aside0.mk (blk_below (g := gb417) (pk BK417) hb)
        replace BK418 := Aside0.mk (blk_below (g := gb418) (pk BK418) hb)
        replace BK425 := Aside0.mk (blk_below (g := gb425) (pk BK425) hb)
        replace HB := Aside0.mk (below_step (by repeat (first | (with_reducible first | exact HB.out | apply below_alloc | apply pw_below_drewN | apply below_drew1 | refine below_set ?_ GE417.out | refine below_set ?_ GE418.out | refine below_set ?_ GE425.out) | exact HB.out)) hb)
        (try clear hb)
        (try clear hb2)
        (try clear hk)
        (try clear hi)
        refine hK.out _ _ ⟨bc BK417 0, bc BK417 1, bc BK417 2, bc BK417 3, bc BK418 0, bc BK418 1, bc BK418 2, bc BK418 3, bc BK425 0, bc BK425 1, bc BK425 2, bc BK425 3⟩ (fun hHeld => ?_)
        clear hK K
        refine norm_ (a' := ?_) ?_ ?_
        rotate_left
        · show Act.put _ (some 41) _ = _
          simp only [Act.put, List.setIfInBounds_toArray, List.set_cons_zero, List.set_cons_succ, i64_w, i32_w]
          rfl
        refine pure_ (i := 11) (N := some 42) (v := ?_) (a' := ?_) #[true, true, true, true, true, true, true, true, true, true, true, true, false] rfl rfl (any_of HT_.out (by kernel_rfl)) (fun _ _ _ h => h) (Or.inl ⟨by rfl, ?_⟩) ?_ ?_
        rotate_left
        · intro w'
          go_simp
          with_reducible rfl
        rotate_left
        · simp only [Act.put, List.setIfInBounds_toArray, List.set_cons_zero, List.set_cons_succ, i64_w, i32_w]
          rfl
        refine pure_ (i := 12) (N := some 43) (v := ?_) (a' := ?_) #[true, true, true, true, true, true, true, true, true, true, true, true, true] rfl rfl (any_of HT_.out (by kernel_rfl)) (fun _ _ _ h => h) (Or.inl ⟨by rfl, ?_⟩) ?_ ?_
        rotate_left
        · intro w'
          go_simp
          with_reducible rfl
        rotate_left
        · simp only [Act.put, List.setIfInBounds_toArray, List.set_cons_zero, List.set_cons_succ, i64_w, i32_w]
          rfl
        refine done_ (done_of HT_.out (by kernel_rfl)) ?_
        try go_wp2_with (first | (go_at_call 15; refine (damperlaw2_within.keep _ _ rfl (by first | decide | assumption | exact wi_ne (by assumption) | exact wi_ne' (by assumption) | omega) _).mono ?_; rintro e w' ⟨rfl, rfl⟩))
        go_meet
        case rel => exact ⟨_, (!t428), (by first | rfl | (simp; done) | (simp [*]; done)), H', ⟨by first | omega | exact Nat.le_refl _⟩, ⟨by (with_reducible repeat (first | apply Kd.R_alloc | apply Kd.R_drewN | apply Kd.R_drew)); exact HO409.out⟩, ⟨by (with_reducible repeat (first | apply Kd.R_alloc | apply Kd.R_drewN | apply Kd.R_drew)); exact HO415.out⟩, ⟨by (with_reducible repeat (first | apply Kd.R_alloc | apply Kd.R_drewN | apply Kd.R_drew)); exact HO423.out⟩, ⟨by (with_reducible repeat (first | refine blk_drewN ?_ _ | refine blk_drew ?_ | refine blk_alloc ?_ _)); exact BK417.out⟩, ⟨by (with_reducible repeat (first | refine blk_drewN ?_ _ | refine blk_drew ?_ | refine blk_alloc ?_ _)); exact BK418.out⟩, ⟨by (with_reducible repeat (first | refine blk_drewN ?_ _ | refine blk_drew ?_ | refine blk_alloc ?_ _)); exact BK425.out⟩, ⟨by repeat (first | (with_reducible first | exact HB.out | apply below_alloc | apply pw_below_drewN | apply below_drew1 | refine below_set ?_ GE417.out | refine below_set ?_ GE418.out | refine below_set ?_ GE425.out) | exact HB.out)⟩⟩
    case rest =>
      clear HC12
      try clear c1
      try clear c2
      try clear p2
      try clear c3
      try clear c8
      try clear c9
      try clear c11
      try clear c18
      try clear c22
      try clear c23
      try clear c25
      try clear c26
      try clear c31
      try clear c31b0
      try clear c31b1
      try clear c31b2
      try clear hcz19_0
      try clear hcz19_1
      try clear hcz19_2
      try clear hcz19_3
      try clear hcz21_0
      try clear hcz21_1
      try clear hcz21_2
      try clear hcz21_3
      try clear hcz27_0
      try clear hcz27_1
      try clear hcz27_2
      try clear hcz27_3
      try clear hfz19_0
      try clear hfz19_1
      try clear hfz19_2
      try clear hfz19_3
      try clear hfz21_0
      try clear hfz21_1
      try clear hfz21_2
      try clear hfz21_3
      try clear hfz27_0
      try clear hfz27_1
      try clear hfz27_2
      try clear hfz27_3
      obtain ⟨kq, x43_11, rfl, HA, HJ11, HO_418002, HO_419002, HO_426002, BK417, BK418, BK425, HB⟩ := hcut
      cases kq with
      | zero => exact absurd HA.out (by simp [damperlaw2_SpecSame.j0])
      | succ kj11 =>
        have H := HA.out
        clear HA
        simp only [damperlaw2_SpecSame.j0] at H
        by_cases c42 : x43_11 = true
        · subst c42
          have H1 : (some false) = some r := by rw [if_pos rfl] at H; exact H
          clear H
          have H := H1
          clear H1
          exact absurd (Option.some.inj H) (by rw [hr0_.out]; decide)
        · replace c42 := Bool.eq_false_iff.mpr c42
          subst c42
          have H1 : (if (t421.length : Int) = 0 then (none) else (if (wi a4 6) = 0 then (if t419.size + 1 ≤ 9223372036854775807 then (damperlaw2_SpecSame.j1 kj11 t405 t406 t407 t410 (t419 ++ (⟨#[120]⟩ : ByteArray)) t420 t421 t424) else (none)) else (if (wi a4 6) = 1 then (damperlaw2_SpecSame.j1 kj11 t405 t406 t407 t410 t419 (⟨#[113]⟩ : ByteArray) t421 t424) else (if (wi a4 6) = 2 then (damperlaw2_SpecSame.j1 kj11 t405 t406 t407 t410 t419 t420 t421 (wrap64 (t424 + 1))) else (if (wi a4 6) = 3 then (if 0 ≤ (wi a5 (t421.length : Int)) then (if (wi a5 (t421.length : Int)) < (t421.length : Int) then (damperlaw2_SpecSame.j1 kj11 t405 t406 t407 t410 t419 t420 (t421.set ((wi a5 (t421.length : Int)) : Int).toNat (⟨(rd_T41 t421 (wi a5 (t421.length : Int))).f0, (rd_T41 t421 (wi a5 (t421.length : Int))).f1, wrap64 (((rd_T41 t421 (wi a5 (t421.length : Int))).f2) + 1)⟩ : S41)) t424) else (none)) else (none)) else (if (wi a4 6) = 4 then (if 0 ≤ (wi a5 (t421.length : Int)) then (if (wi a5 (t421.length : Int)) < (t421.length : Int) then (if ((rd_T41 t421 (wi a5 (t421.length : Int))).f0).size + 1 ≤ 9223372036854775807 then (damperlaw2_SpecSame.j1 kj11 t405 t406 t407 t410 t419 t420 (t421.set ((wi a5 (t421.length : Int)) : Int).toNat (⟨((rd_T41 t421 (wi a5 (t421.length : Int))).f0) ++ (⟨#[57]⟩ : ByteArray), (rd_T41 t421 (wi a5 (t421.length : Int))).f1, (rd_T41 t421 (wi a5 (t421.length : Int))).f2⟩ : S41)) t424) else (none)) else (none)) else (none)) else (if (wi a4 6) = 5 then (if t421.length < 3518437208883 then (damperlaw2_SpecSame.j1 kj11 t405 t406 t407 t410 t419 t420 (t421 ++ [(⟨(⟨#[]⟩ : ByteArray), (⟨#[]⟩ : ByteArray), 0⟩ : S41)]) t424) else (none)) else (damperlaw2_SpecSame.j1 kj11 t405 t406 t407 t410 t419 t420 t421 t424)))))))) = some r := by rw [if_neg (show ¬ (false = true) by decide)] at H; exact H
          clear H
          have H := H1
          clear H1
          by_cases c43 : (t421.length : Int) = 0
          · rw [if_pos c43] at H
            exact absurd H (by simp)
          rw [if_neg c43] at H
          have c43b0 : ((t421.length : Int) == 0) = false := beq_eq_false_iff_ne.mpr c43
          have c43b1 : ((t421.length : Int) != 0) = true := bne_iff_ne.mpr c43
          have c43b2 : ¬ (t421 = []) := fun h_ => c43 (by rw [h_]; rfl)
          obtain ⟨ji44, hji44⟩ : ∃ j_ : Int, (wi a5 (t421.length : Int)) = j_ := ⟨_, rfl⟩
          replace H : (if (wi a4 6) = 0 then (if t419.size + 1 ≤ 9223372036854775807 then (damperlaw2_SpecSame.j1 kj11 t405 t406 t407 t410 (t419 ++ (⟨#[120]⟩ : ByteArray)) t420 t421 t424) else (none)) else (if (wi a4 6) = 1 then (damperlaw2_SpecSame.j1 kj11 t405 t406 t407 t410 t419 (⟨#[113]⟩ : ByteArray) t421 t424) else (if (wi a4 6) = 2 then (damperlaw2_SpecSame.j1 kj11 t405 t406 t407 t410 t419 t420 t421 (wrap64 (t424 + 1))) else (if (wi a4 6) = 3 then (if 0 ≤ (ji44) then (if (ji44) < (t421.length : Int) then (damperlaw2_SpecSame.j1 kj11 t405 t406 t407 t410 t419 t420 (t421.set ((ji44) : Int).toNat (⟨(rd_T41 t421 (ji44)).f0, (rd_T41 t421 (ji44)).f1, wrap64 (((rd_T41 t421 (ji44)).f2) + 1)⟩ : S41)) t424) else (none)) else (none)) else (if (wi a4 6) = 4 then (if 0 ≤ (ji44) then (if (ji44) < (t421.length : Int) then (if ((rd_T41 t421 (ji44)).f0).size + 1 ≤ 9223372036854775807 then (damperlaw2_SpecSame.j1 kj11 t405 t406 t407 t410 t419 t420 (t421.set ((ji44) : Int).toNat (⟨((rd_T41 t421 (ji44)).f0) ++ (⟨#[57]⟩ : ByteArray), (rd_T41 t421 (ji44)).f1, (rd_T41 t421 (ji44)).f2⟩ : S41)) t424) else (none)) else (none)) else (none)) else (if (wi a4 6) = 5 then (if t421.length < 3518437208883 then (damperlaw2_SpecSame.j1 kj11 t405 t406 t407 t410 t419 t420 (t421 ++ [(⟨(⟨#[]⟩ : ByteArray), (⟨#[]⟩ : ByteArray), 0⟩ : S41)]) t424) else (none)) else (damperlaw2_SpecSame.j1 kj11 t405 t406 t407 t410 t419 t420 t421 t424))))))) = some r := by first | (rw [hji44] at H; exact H) | (simp only [hji44] at H ⊢; exact H)
          obtain ⟨ji45, hji45⟩ : ∃ j_ : Int, (wi a4 6) = j_ := ⟨_, rfl⟩
          replace H : (if (ji45) = 0 then (if t419.size + 1 ≤ 9223372036854775807 then (damperlaw2_SpecSame.j1 kj11 t405 t406 t407 t410 (t419 ++ (⟨#[120]⟩ : ByteArray)) t420 t421 t424) else (none)) else (if (ji45) = 1 then (damperlaw2_SpecSame.j1 kj11 t405 t406 t407 t410 t419 (⟨#[113]⟩ : ByteArray) t421 t424) else (if (ji45) = 2 then (damperlaw2_SpecSame.j1 kj11 t405 t406 t407 t410 t419 t420 t421 (wrap64 (t424 + 1))) else (if (ji45) = 3 then (if 0 ≤ (ji44) then (if (ji44) < (t421.length : Int) then (damperlaw2_SpecSame.j1 kj11 t405 t406 t407 t410 t419 t420 (t421.set ((ji44) : Int).toNat (⟨(rd_T41 t421 (ji44)).f0, (rd_T41 t421 (ji44)).f1, wrap64 (((rd_T41 t421 (ji44)).f2) + 1)⟩ : S41)) t424) else (none)) else (none)) else (if (ji45) = 4 then (if 0 ≤ (ji44) then (if (ji44) < (t421.length : Int) then (if ((rd_T41 t421 (ji44)).f0).size + 1 ≤ 9223372036854775807 then (damperlaw2_SpecSame.j1 kj11 t405 t406 t407 t410 t419 t420 (t421.set ((ji44) : Int).toNat (⟨((rd_T41 t421 (ji44)).f0) ++ (⟨#[57]⟩ : ByteArray), (rd_T41 t421 (ji44)).f1, (rd_T41 t421 (ji44)).f2⟩ : S41)) t424) else (none)) else (none)) else (none)) else (if (ji45) = 5 then (if t421.length < 3518437208883 then (damperlaw2_SpecSame.j1 kj11 t405 t406 t407 t410 t419 t420 (t421 ++ [(⟨(⟨#[]⟩ : ByteArray), (⟨#[]⟩ : ByteArray), 0⟩ : S41)]) t424) else (none)) else (damperlaw2_SpecSame.j1 kj11 t405 t406 t407 t410 t419 t420 t421 t424))))))) = some r := by first | (rw [hji45] at H; exact H) | (simp only [hji45] at H ⊢; exact H)
          have HC46 := Aside0.mk H
          clear H
          have hnb47 := NB425_417.out
          have hnc47 := NB417_425.out
          have hnb48 := NB425_418.out
          have hnc48 := NB418_425.out
          have hcz49_0 : wc.cell? ⟨gb425, 0, none⟩ = some (.string t419) := bc BK425 0
          have hcz49_1 : wc.cell? ⟨gb425, 1, none⟩ = some (.string t420) := bc BK425 1
          have hcz49_2 : wc.cell? ⟨gb425, 2, none⟩ = some (.slice Ao28 t421.length co28) := bc BK425 2
          have hcz49_3 : wc.cell? ⟨gb425, 3, none⟩ = some (.int .i64 t424) := bc BK425 3
          have hfz49_0 := blk_frozen BK425.out 0
          have hfz49_1 := blk_frozen BK425.out 1
          have hfz49_2 := blk_frozen BK425.out 2
          have hfz49_3 := blk_frozen BK425.out 3
          go_upto_block 0 with (first | (go_at_call 15; refine (damperlaw2_within.keep _ _ rfl (by first | decide | assumption | exact wi_ne (by assumption) | exact wi_ne' (by assumption) | omega) _).mono ?_; rintro e w' ⟨rfl, rfl⟩))
          go_cut [] (fun wc => ∃ (kq : Nat) (x418002_45 : List (S41)) (x419002_45 : List (S41)) (x426000_45 : ByteArray) (x426001_45 : ByteArray) (x426002_45 : List (S41)) (x426003_45 : Int) (u418002 : Value) (u419002 : Value) (u426002 : Value), Aside0 (damperlaw2_SpecSame.j1 kq t405 t406 x418002_45 t410 x426000_45 x426001_45 x426002_45 x426003_45 = some r) ∧ Aside0 (kq ≤ kj11) ∧ Aside0 (Kd.R k41 41 wc w.heap.size (fun k_ => some k_ ≠ (u419002 : Value).ownBlock ∧ some k_ ≠ (u426002 : Value).ownBlock) u418002 x418002_45) ∧ Aside0 (Kd.R k41 41 wc w.heap.size (fun k_ => some k_ ≠ (u418002 : Value).ownBlock ∧ some k_ ≠ (u426002 : Value).ownBlock) u419002 x419002_45) ∧ Aside0 (Kd.R k41 41 wc w.heap.size (fun k_ => some k_ ≠ (u418002 : Value).ownBlock ∧ some k_ ≠ (u419002 : Value).ownBlock) u426002 x426002_45) ∧ Aside0 (wc.heap[gb417]? = some (.cells #[.string t405, .string t406, u418002, .int .i64 t410] 35 (0, 0))) ∧ Aside0 (wc.heap[gb418]? = some (.cells #[.string t411, .string t412, u419002, .int .i64 t416] 35 (0, 0))) ∧ Aside0 (wc.heap[gb425]? = some (.cells #[.string x426000_45, .string x426001_45, u426002, .int .i64 x426003_45] 35 (0, 0))) ∧ Aside0 (Below w.heap.size w wc))
          case first =>
            have H := HC46.out
            clear HC46
            by_cases c50 : (ji45) = 0
            · rw [if_pos c50] at H
              have c50b0 : ((ji45) == 0) = true := beq_iff_eq.mpr c50
              have c50b1 : ((ji45) != 0) = false := bne_eq_false_iff_eq.mpr c50
              clear c50
              (first | rw [c50b0] | (simp only [i64_w, i32_w]; rw [c50b0]) | rw [c50b1] | skip)
              by_cases c51 : t419.size + 1 ≤ 9223372036854775807
              rotate_left
              · rw [if_neg c51] at H
                exact absurd H (by simp)
              rw [if_pos c51] at H
              have c51b0 := eq_true c51
              have c51b1 : decide (t419.size + 1 ≤ 9223372036854775807) = true := decide_eq_true c51
              try have c51b2 : (9223372036854775807 < t419.size + 1) = False := eq_false (Nat.not_lt.2 c51)
              try (have c51b4 := c51; simp at c51b4; have c51b5 := eq_false (Nat.not_lt.2 c51b4))
              have H' := Aside0.mk H
              clear H
              have hnb52 := NB425_417.out
              have hnc52 := NB417_425.out
              have hnb53 := NB425_418.out
              have hnc53 := NB418_425.out
              have hcz54_0 : wc.cell? ⟨gb425, 0, none⟩ = some (.string t419) := bc BK425 0
              have hcz54_1 : wc.cell? ⟨gb425, 1, none⟩ = some (.string t420) := bc BK425 1
              have hcz54_2 : wc.cell? ⟨gb425, 2, none⟩ = some (.slice Ao28 t421.length co28) := bc BK425 2
              have hcz54_3 : wc.cell? ⟨gb425, 3, none⟩ = some (.int .i64 t424) := bc BK425 3
              have hfz54_0 := blk_frozen BK425.out 0
              have hfz54_1 := blk_frozen BK425.out 1
              have hfz54_2 := blk_frozen BK425.out 2
              have hfz54_3 := blk_frozen BK425.out 3
              go_wp2_with (first | (go_at_call 15; refine (damperlaw2_within.keep _ _ rfl (by first | decide | assumption | exact wi_ne (by assumption) | exact wi_ne' (by assumption) | omega) _).mono ?_; rintro e w' ⟨rfl, rfl⟩))
              go_meet
              case rel => exact ⟨_, (t407), (t413), (t419 ++ (⟨#[120]⟩ : ByteArray)), (t420), (t421), (t424), (.slice Ao20 t407.length co20), (.slice Ao22 t413.length co22), (.slice Ao28 t421.length co28), H', ⟨by have := HJ11.out; first | omega | exact Nat.le_refl _⟩, ⟨by (with_reducible repeat (first | apply Kd.R_alloc | apply Kd.R_drewN | apply Kd.R_drew)); exact Kd.R_mono (Kd.R_far (p := ⟨gb425, 0, none⟩) (Kd.R_types HO_418002.out BK425.out (by decide)) (fun _ hk => hk.2) (.string (t419 ++ (⟨#[120]⟩ : ByteArray)))) (fun _ hk => ⟨hk.1.1, hk.1.2⟩)⟩, ⟨by (with_reducible repeat (first | apply Kd.R_alloc | apply Kd.R_drewN | apply Kd.R_drew)); exact Kd.R_mono (Kd.R_far (p := ⟨gb425, 0, none⟩) (Kd.R_types HO_419002.out BK425.out (by decide)) (fun _ hk => hk.2) (.string (t419 ++ (⟨#[120]⟩ : ByteArray)))) (fun _ hk => ⟨hk.1.1, hk.1.2⟩)⟩, ⟨by (with_reducible repeat (first | apply Kd.R_alloc | apply Kd.R_drewN | apply Kd.R_drew)); exact Kd.R_mono (Kd.R_far (p := ⟨gb425, 0, none⟩) (Kd.R_types HO_426002.out BK425.out (by decide)) (fun _ hk => hk.2) (.string (t419 ++ (⟨#[120]⟩ : ByteArray)))) (fun _ hk => ⟨hk.1.1, hk.1.2⟩)⟩, ⟨by (with_reducible repeat (first | refine blk_drewN ?_ _ | refine blk_drew ?_ | refine blk_alloc ?_ _)); refine blk_far ?_ NB417_425.out _; (with_reducible repeat (first | refine blk_drewN ?_ _ | refine blk_drew ?_ | refine blk_alloc ?_ _)); exact BK417.out⟩, ⟨by (with_reducible repeat (first | refine blk_drewN ?_ _ | refine blk_drew ?_ | refine blk_alloc ?_ _)); refine blk_far ?_ NB418_425.out _; (with_reducible repeat (first | refine blk_drewN ?_ _ | refine blk_drew ?_ | refine blk_alloc ?_ _)); exact BK418.out⟩, ⟨by (with_reducible repeat (first | refine blk_drewN ?_ _ | refine blk_drew ?_ | refine blk_alloc ?_ _)); refine blk_put (cs := #[.string t419, .string t420, .slice Ao28 t421.length co28, .int .i64 t424]) ?_ 0 _ rfl; (with_reducible repeat (first | refine blk_drewN ?_ _ | refine blk_drew ?_ | refine blk_alloc ?_ _)); exact BK425.out⟩, ⟨by repeat (first | (with_reducible first | exact HB.out | apply below_alloc | apply pw_below_drewN | apply below_drew1 | refine below_set ?_ GE417.out | refine below_set ?_ GE418.out | refine below_set ?_ GE425.out) | exact HB.out)⟩⟩
            · rw [if_neg c50] at H
              have c50b0 : ((ji45) == 0) = false := beq_eq_false_iff_ne.mpr c50
              have c50b1 : ((ji45) != 0) = true := bne_iff_ne.mpr c50
              (first | rw [c50b0] | (simp only [i64_w, i32_w]; rw [c50b0]) | rw [c50b1] | skip)
              by_cases c55 : (ji45) = 1
              · rw [if_pos c55] at H
                have c55b0 : ((ji45) == 1) = true := beq_iff_eq.mpr c55
                have c55b1 : ((ji45) != 1) = false := bne_eq_false_iff_eq.mpr c55
                clear c55
                have H' := Aside0.mk H
                clear H
                have hnb56 := NB425_417.out
                have hnc56 := NB417_425.out
                have hnb57 := NB425_418.out
                have hnc57 := NB418_425.out
                have hcz58_0 : wc.cell? ⟨gb425, 0, none⟩ = some (.string t419) := bc BK425 0
                have hcz58_1 : wc.cell? ⟨gb425, 1, none⟩ = some (.string t420) := bc BK425 1
                have hcz58_2 : wc.cell? ⟨gb425, 2, none⟩ = some (.slice Ao28 t421.length co28) := bc BK425 2
                have hcz58_3 : wc.cell? ⟨gb425, 3, none⟩ = some (.int .i64 t424) := bc BK425 3
                have hfz58_0 := blk_frozen BK425.out 0
                have hfz58_1 := blk_frozen BK425.out 1
                have hfz58_2 := blk_frozen BK425.out 2
                have hfz58_3 := blk_frozen BK425.out 3
                go_wp2_with (first | (go_at_call 15; refine (damperlaw2_within.keep _ _ rfl (by first | decide | assumption | exact wi_ne (by assumption) | exact wi_ne' (by assumption) | omega) _).mono ?_; rintro e w' ⟨rfl, rfl⟩))
                go_meet
                case rel => exact ⟨_, (t407), (t413), (t419), ((⟨#[113]⟩ : ByteArray)), (t421), (t424), (.slice Ao20 t407.length co20), (.slice Ao22 t413.length co22), (.slice Ao28 t421.length co28), H', ⟨by have := HJ11.out; first | omega | exact Nat.le_refl _⟩, ⟨by (with_reducible repeat (first | apply Kd.R_alloc | apply Kd.R_drewN | apply Kd.R_drew)); exact Kd.R_mono (Kd.R_far (p := ⟨gb425, 1, none⟩) (Kd.R_types HO_418002.out BK425.out (by decide)) (fun _ hk => hk.2) (.string (⟨#[113]⟩ : ByteArray))) (fun _ hk => ⟨hk.1.1, hk.1.2⟩)⟩, ⟨by (with_reducible repeat (first | apply Kd.R_alloc | apply Kd.R_drewN | apply Kd.R_drew)); exact Kd.R_mono (Kd.R_far (p := ⟨gb425, 1, none⟩) (Kd.R_types HO_419002.out BK425.out (by decide)) (fun _ hk => hk.2) (.string (⟨#[113]⟩ : ByteArray))) (fun _ hk => ⟨hk.1.1, hk.1.2⟩)⟩, ⟨by (with_reducible repeat (first | apply Kd.R_alloc | apply Kd.R_drewN | apply Kd.R_drew)); exact Kd.R_mono (Kd.R_far (p := ⟨gb425, 1, none⟩) (Kd.R_types HO_426002.out BK425.out (by decide)) (fun _ hk => hk.2) (.string (⟨#[113]⟩ : ByteArray))) (fun _ hk => ⟨hk.1.1, hk.1.2⟩)⟩, ⟨by (with_reducible repeat (first | refine blk_drewN ?_ _ | refine blk_drew ?_ | refine blk_alloc ?_ _)); refine blk_far ?_ NB417_425.out _; (with_reducible repeat (first | refine blk_drewN ?_ _ | refine blk_drew ?_ | refine blk_alloc ?_ _)); exact BK417.out⟩, ⟨by (with_reducible repeat (first | refine blk_drewN ?_ _ | refine blk_drew ?_ | refine blk_alloc ?_ _)); refine blk_far ?_ NB418_425.out _; (with_reducible repeat (first | refine blk_drewN ?_ _ | refine blk_drew ?_ | refine blk_alloc ?_ _)); exact BK418.out⟩, ⟨by (with_reducible repeat (first | refine blk_drewN ?_ _ | refine blk_drew ?_ | refine blk_alloc ?_ _)); refine blk_put (cs := #[.string t419, .string t420, .slice Ao28 t421.length co28, .int .i64 t424]) ?_ 1 _ rfl; (with_reducible repeat (first | refine blk_drewN ?_ _ | refine blk_drew ?_ | refine blk_alloc ?_ _)); exact BK425.out⟩, ⟨by repeat (first | (with_reducible first | exact HB.out | apply below_alloc | apply pw_below_drewN | apply below_drew1 | refine below_set ?_ GE417.out | refine below_set ?_ GE418.out | refine below_set ?_ GE425.out) | exact HB.out)⟩⟩
              · rw [if_neg c55] at H
                have c55b0 : ((ji45) == 1) = false := beq_eq_false_iff_ne.mpr c55
                have c55b1 : ((ji45) != 1) = true := bne_iff_ne.mpr c55
                by_cases c59 : (ji45) = 2
                · rw [if_pos c59] at H
                  have c59b0 : ((ji45) == 2) = true := beq_iff_eq.mpr c59
                  have c59b1 : ((ji45) != 2) = false := bne_eq_false_iff_eq.mpr c59
                  clear c59
                  have H' := Aside0.mk H
                  clear H
                  have hnb60 := NB425_417.out
                  have hnc60 := NB417_425.out
                  have hnb61 := NB425_418.out
                  have hnc61 := NB418_425.out
                  have hcz62_0 : wc.cell? ⟨gb425, 0, none⟩ = some (.string t419) := bc BK425 0
                  have hcz62_1 : wc.cell? ⟨gb425, 1, none⟩ = some (.string t420) := bc BK425 1
                  have hcz62_2 : wc.cell? ⟨gb425, 2, none⟩ = some (.slice Ao28 t421.length co28) := bc BK425 2
                  have hcz62_3 : wc.cell? ⟨gb425, 3, none⟩ = some (.int .i64 t424) := bc BK425 3
                  have hfz62_0 := blk_frozen BK425.out 0
                  have hfz62_1 := blk_frozen BK425.out 1
                  have hfz62_2 := blk_frozen BK425.out 2
                  have hfz62_3 := blk_frozen BK425.out 3
                  go_wp2_with (first | (go_at_call 15; refine (damperlaw2_within.keep _ _ rfl (by first | decide | assumption | exact wi_ne (by assumption) | exact wi_ne' (by assumption) | omega) _).mono ?_; rintro e w' ⟨rfl, rfl⟩))
                  go_meet
                  case rel => exact ⟨_, (t407), (t413), (t419), (t420), (t421), (wrap64 (t424 + 1)), (.slice Ao20 t407.length co20), (.slice Ao22 t413.length co22), (.slice Ao28 t421.length co28), H', ⟨by have := HJ11.out; first | omega | exact Nat.le_refl _⟩, ⟨by (with_reducible repeat (first | apply Kd.R_alloc | apply Kd.R_drewN | apply Kd.R_drew)); exact Kd.R_mono (Kd.R_far (p := ⟨gb425, 3, none⟩) (Kd.R_types HO_418002.out BK425.out (by decide)) (fun _ hk => hk.2) (.int .i64 (wrap64 (t424 + 1)))) (fun _ hk => ⟨hk.1.1, hk.1.2⟩)⟩, ⟨by (with_reducible repeat (first | apply Kd.R_alloc | apply Kd.R_drewN | apply Kd.R_drew)); exact Kd.R_mono (Kd.R_far (p := ⟨gb425, 3, none⟩) (Kd.R_types HO_419002.out BK425.out (by decide)) (fun _ hk => hk.2) (.int .i64 (wrap64 (t424 + 1)))) (fun _ hk => ⟨hk.1.1, hk.1.2⟩)⟩, ⟨by (with_reducible repeat (first | apply Kd.R_alloc | apply Kd.R_drewN | apply Kd.R_drew)); exact Kd.R_mono (Kd.R_far (p := ⟨gb425, 3, none⟩) (Kd.R_types HO_426002.out BK425.out (by decide)) (fun _ hk => hk.2) (.int .i64 (wrap64 (t424 + 1)))) (fun _ hk => ⟨hk.1.1, hk.1.2⟩)⟩, ⟨by (with_reducible repeat (first | refine blk_drewN ?_ _ | refine blk_drew ?_ | refine blk_alloc ?_ _)); refine blk_far ?_ NB417_425.out _; (with_reducible repeat (first | refine blk_drewN ?_ _ | refine blk_drew ?_ | refine blk_alloc ?_ _)); exact BK417.out⟩, ⟨by (with_reducible repeat (first | refine blk_drewN ?_ _ | refine blk_drew ?_ | refine blk_alloc ?_ _)); refine blk_far ?_ NB418_425.out _; (with_reducible repeat (first | refine blk_drewN ?_ _ | refine blk_drew ?_ | refine blk_alloc ?_ _)); exact BK418.out⟩, ⟨by (with_reducible repeat (first | refine blk_drewN ?_ _ | refine blk_drew ?_ | refine blk_alloc ?_ _)); refine blk_put (cs := #[.string t419, .string t420, .slice Ao28 t421.length co28, .int .i64 t424]) ?_ 3 _ rfl; (with_reducible repeat (first | refine blk_drewN ?_ _ | refine blk_drew ?_ | refine blk_alloc ?_ _)); exact BK425.out⟩, ⟨by repeat (first | (with_reducible first | exact HB.out | apply below_alloc | apply pw_below_drewN | apply below_drew1 | refine below_set ?_ GE417.out | refine below_set ?_ GE418.out | refine below_set ?_ GE425.out) | exact HB.out)⟩⟩
                · rw [if_neg c59] at H
                  have c59b0 : ((ji45) == 2) = false := beq_eq_false_iff_ne.mpr c59
                  have c59b1 : ((ji45) != 2) = true := bne_iff_ne.mpr c59
                  by_cases c63 : (ji45) = 3
                  · rw [if_pos c63] at H
                    have c63b0 : ((ji45) == 3) = true := beq_iff_eq.mpr c63
                    have c63b1 : ((ji45) != 3) = false := bne_eq_false_iff_eq.mpr c63
                    clear c63
                    by_cases c64 : 0 ≤ (ji44)
                    rotate_left
                    · rw [if_neg c64] at H
                      exact absurd H (by simp)
                    rw [if_pos c64] at H
                    have c64b0 : decide (0 ≤ (ji44)) = true := decide_eq_true c64
                    clear c64
                    by_cases c65 : (ji44) < (t421.length : Int)
                    rotate_left
                    · rw [if_neg c65] at H
                      exact absurd H (by simp)
                    rw [if_pos c65] at H
                    have c65b0 : decide ((ji44) < (t421.length : Int)) = true := decide_eq_true c65
                    clear c65
                    obtain ⟨y430, hy430⟩ : ∃ y_ : List (S41), y_ = (t421.set ((ji44) : Int).toNat (⟨(rd_T41 t421 (ji44)).f0, (rd_T41 t421 (ji44)).f1, wrap64 (((rd_T41 t421 (ji44)).f2) + 1)⟩ : S41)) := ⟨_, rfl⟩
                    replace H : (damperlaw2_SpecSame.j1 kj11 t405 t406 t407 t410 t419 t420 y430 t424) = some r := by first | (rw [hy430]; with_reducible exact H) | (have H2_ := (Option.bind_some _ _).symm.trans H; rw [hy430]; with_reducible exact H2_) | (have H2_ := (Option.bind_some _ _).symm.trans H; with_reducible exact H2_) | with_reducible exact H | (rw [hy430]; exact H) | exact H
                    have Ny430 := Aside0.mk hy430
                    clear hy430
                    have H' := Aside0.mk H
                    clear H
                    have hnb67 := NB425_417.out
                    have hnc67 := NB417_425.out
                    have hnb68 := NB425_418.out
                    have hnc68 := NB418_425.out
                    have hcz69_0 : wc.cell? ⟨gb425, 0, none⟩ = some (.string t419) := bc BK425 0
                    have hcz69_1 : wc.cell? ⟨gb425, 1, none⟩ = some (.string t420) := bc BK425 1
                    have hcz69_2 : wc.cell? ⟨gb425, 2, none⟩ = some (.slice Ao28 t421.length co28) := bc BK425 2
                    have hcz69_3 : wc.cell? ⟨gb425, 3, none⟩ = some (.int .i64 t424) := bc BK425 3
                    have hfz69_0 := blk_frozen BK425.out 0
                    have hfz69_1 := blk_frozen BK425.out 1
                    have hfz69_2 := blk_frozen BK425.out 2
                    have hfz69_3 := blk_frozen BK425.out 3
                    have p429 : 0 ≤ ((ji44) : Int) := of_decide_eq_true (by first | (with_reducible assumption) | assumption)
                    have q429 : (ji44) < (t421.length : Int) := of_decide_eq_true (by first | (with_reducible assumption) | assumption)
                    obtain ⟨ad429, e429, hx429_0, hx429_1, hx429_2⟩ := at_T41 (Kd.R_reads' HO_426002.out).2.2 (ji44) p429 q429
                    cases e429
                    replace p429 := eq_true p429
                    replace q429 := eq_true q429
                    have p66 : 0 ≤ ((ji44) : Int) := of_decide_eq_true (by first | (with_reducible assumption) | assumption)
                    have q66 : ((ji44) : Int) < ((t421.length : Int) : Int) := of_decide_eq_true (by first | (with_reducible assumption) | assumption)
                    obtain ⟨go66, co66, eo66, gb66, gl66, cl66, HG66⟩ := Kd.R_form HO_426002.out (by omega)
                    (first | cases eo66 | (injection eo66 with ea_ en_ ec_; (first | subst ea_ | (injection ea_ with ea_; subst ea_)); subst ec_; clear en_))
                    have GB66 := Aside0.mk gb66
                    have GG66 := Aside0.mk HG66
                    clear gb66 gl66 HG66
                    (first | simp only [add_plain] at hx429_0 | skip)
                    (first | simp only [add_plain] at hx429_1 | skip)
                    (first | simp only [add_plain] at hx429_2 | skip)
                    obtain ⟨ce66, hcl66, hM66, hcc66, hfr66⟩ := Kd.R_elem HO_426002.out z41 ((ji44) : Int) p66 q66
                    obtain rfl := k41_openM hM66
                    have hx66_0 : wc.cell? ⟨go66, ((ji44) : Int).toNat * 3, none⟩ = some (.string ((rd_T41 t421 (ji44)).f0)) := hcc66 0 _ rfl
                    have hx66_1 : wc.cell? ⟨go66, ((ji44) : Int).toNat * 3 + 1, none⟩ = some (.string ((rd_T41 t421 (ji44)).f1)) := hcc66 1 _ rfl
                    have hx66_2 : wc.cell? ⟨go66, ((ji44) : Int).toNat * 3 + 2, none⟩ = some (.int .i64 ((rd_T41 t421 (ji44)).f2)) := hcc66 2 _ rfl
                    have hf66_0 : wc.frozen? ⟨go66, ((ji44) : Int).toNat * 3, none⟩ = false := hfr66 0
                    have hf66_1 : wc.frozen? ⟨go66, ((ji44) : Int).toNat * 3 + 1, none⟩ = false := hfr66 1
                    have hf66_2 : wc.frozen? ⟨go66, ((ji44) : Int).toNat * 3 + 2, none⟩ = false := hfr66 2
                    clear hcl66 hcc66 hfr66 hM66
                    replace p66 := eq_true p66
                    replace q66 := eq_true q66
                    have HX70 := Aside0.mk (show Kd.R k41 41 wc w.heap.size (fun k_ => some k_ ≠ (.slice Ao20 t407.length co20 : Value).ownBlock ∧ some k_ ≠ (.slice Ao22 t413.length co22 : Value).ownBlock) (.slice (some ⟨go66, 0, none⟩) t421.length co28) t421 from (by (with_reducible repeat (first | apply Kd.R_alloc | apply Kd.R_drewN | apply Kd.R_drew)); exact HO_426002.out))
                    obtain ⟨ce70, hcl70, hM70, hcc70, hfr70⟩ := Kd.R_elem HX70.out z41 ((ji44) : Int) (of_decide_eq_true (by first | (with_reducible assumption) | assumption)) (by have h_ : ((ji44) : Int) < ((t421.length : Int) : Int) := of_decide_eq_true (by first | (with_reducible assumption) | assumption); first | exact h_ | (have e_ := (Kd.R_reads' HO_426002.out).1; omega) | simpa using h_)
                    obtain rfl := k41_openM hM70
                    have HP70 := Kd.R_seg HX70.out ((ji44) : Int) (of_decide_eq_true (by first | (with_reducible assumption) | assumption)) (by have h_ : ((ji44) : Int) < ((t421.length : Int) : Int) := of_decide_eq_true (by first | (with_reducible assumption) | assumption); first | exact h_ | (have e_ := (Kd.R_reads' HO_426002.out).1; omega) | simpa using h_) (seg := [.int .i64 (wrap64 (((rd_T41 t421 (ji44)).f2) + 1))]) (j := 2) hcl70 hcc70 (show 3 ≤ 3 from by decide) (x' := (⟨(rd_T41 t421 (ji44)).f0, (rd_T41 t421 (ji44)).f1, wrap64 (((rd_T41 t421 (ji44)).f2) + 1)⟩ : S41)) (k41_mkM _ _ _ (⟨(rd_T41 t421 (ji44)).f0, (rd_T41 t421 (ji44)).f1, wrap64 (((rd_T41 t421 (ji44)).f2) + 1)⟩ : S41) ) (fun _ hk => hk)
                    have hx70_2 := hcc70 2 _ rfl
                    (try simp only [show (k41).sz = 3 from rfl, Nat.mul_one, Nat.add_zero] at hx70_2)
                    have hf70_2 := hfr70 2
                    (try simp only [show (k41).sz = 3 from rfl, Nat.mul_one, Nat.add_zero] at hf70_2)
                    clear hcl70 hcc70 hfr70 hM70
                    go_wp2_with (first | (go_at_call 15; refine (damperlaw2_within.keep _ _ rfl (by first | decide | assumption | exact wi_ne (by assumption) | exact wi_ne' (by assumption) | omega) _).mono ?_; rintro e w' ⟨rfl, rfl⟩) | ((with_reducible refine gate_store (t := 3) (p := 76) rfl ?_); refine store_event (t := 3) (p := 76) (v := ?vo_w71) (w1 := (wc.setCell ⟨go66, ((ji44) : Int).toNat * 3 + 2, none⟩ (.int .i64 (wrap64 (((rd_T41 t421 (ji44)).f2) + 1))))) ?hg ?ho ?hn ?hr ?_; (case ho => rfl); (case hg => rfl); (case hn => rfl); (case hr => first | (go_simp; done) | (go_simp; rfl)); intro w71 hw; have hg : wc.grownBy w71 (some go66) := (by rw [hw]; exact HP70.2); have hp_ : Kd.R k41 41 w71 w.heap.size (fun k_ => some k_ ≠ (.slice Ao20 t407.length co20 : Value).ownBlock ∧ some k_ ≠ (.slice Ao22 t413.length co22 : Value).ownBlock) (.slice (some ⟨go66, 0, none⟩) t421.length co28) y430 := (by rw [hw, Ny430.out]; exact HP70.1); clear HP70; have n0_ := Aside0.mk (Kd.R_after (v := (.slice (some ⟨go66, 0, none⟩) t421.length co28)) (v1 := (.slice (some ⟨go66, 0, none⟩) t421.length co28)) (ok := (fun k_ => some k_ ≠ (.slice Ao22 t413.length co22 : Value).ownBlock)) (by (with_reducible repeat (first | apply Kd.R_alloc | apply Kd.R_drewN | apply Kd.R_drew)); exact HO_418002.out) hg (.inl rfl)); have n1_ := Aside0.mk (Kd.R_after (v := (.slice (some ⟨go66, 0, none⟩) t421.length co28)) (v1 := (.slice (some ⟨go66, 0, none⟩) t421.length co28)) (ok := (fun k_ => some k_ ≠ (.slice Ao20 t407.length co20 : Value).ownBlock)) (by (with_reducible repeat (first | apply Kd.R_alloc | apply Kd.R_drewN | apply Kd.R_drew)); exact HO_419002.out) hg (.inl rfl)); have n2_ := Aside0.mk (hp_); have n3_ := Aside0.mk (blk_grown (g := gb417) (pk BK417) hg (Kd.R_ne HO_426002.out BK417.out (by decide))); have n4_ := Aside0.mk (blk_grown (g := gb418) (pk BK418) hg (Kd.R_ne HO_426002.out BK418.out (by decide))); have n5_ := Aside0.mk (blk_grown (g := gb425) (pk BK425) hg (Kd.R_ne HO_426002.out BK425.out (by decide))); have n6_ := Aside0.mk ((by rw [hw]; exact below_set (HB.out) GB66.out : Below w.heap.size w w71)); clear HO_418002; clear HO_419002; clear HO_426002; clear BK417; clear BK418; clear BK425; clear HB; have HO_418002 := n0_; have HO_419002 := n1_; have HO_426002 := n2_; have BK417 := n3_; have BK418 := n4_; have BK425 := n5_; have HB := n6_; clear n0_ n1_ n2_ n3_ n4_ n5_ n6_; clear hg hw hp_))
                    go_meet
                    case rel => exact ⟨_, (t407), (t413), (t419), (t420), (y430), (t424), (.slice Ao20 t407.length co20), (.slice Ao22 t413.length co22), (.slice (some ⟨go66, 0, none⟩) t421.length co28), H', ⟨by have := HJ11.out; first | omega | exact Nat.le_refl _⟩, ⟨by (with_reducible repeat (first | apply Kd.R_alloc | apply Kd.R_drewN | apply Kd.R_drew)); exact HO_418002.out⟩, ⟨by (with_reducible repeat (first | apply Kd.R_alloc | apply Kd.R_drewN | apply Kd.R_drew)); exact HO_419002.out⟩, ⟨by (with_reducible repeat (first | apply Kd.R_alloc | apply Kd.R_drewN | apply Kd.R_drew)); exact HO_426002.out⟩, ⟨by (with_reducible repeat (first | refine blk_drewN ?_ _ | refine blk_drew ?_ | refine blk_alloc ?_ _)); exact BK417.out⟩, ⟨by (with_reducible repeat (first | refine blk_drewN ?_ _ | refine blk_drew ?_ | refine blk_alloc ?_ _)); exact BK418.out⟩, ⟨by (with_reducible repeat (first | refine blk_drewN ?_ _ | refine blk_drew ?_ | refine blk_alloc ?_ _)); exact BK425.out⟩, ⟨by repeat (first | (with_reducible first | exact HB.out | apply below_alloc | apply pw_below_drewN | apply below_drew1 | refine below_set ?_ GE417.out | refine below_set ?_ GE418.out | refine below_set ?_ GE425.out) | exact HB.out)⟩⟩
                  · rw [if_neg c63] at H
                    have c63b0 : ((ji45) == 3) = false := beq_eq_false_iff_ne.mpr c63
                    have c63b1 : ((ji45) != 3) = true := bne_iff_ne.mpr c63
                    by_cases c72 : (ji45) = 4
                    · rw [if_pos c72] at H
                      have c72b0 : ((ji45) == 4) = true := beq_iff_eq.mpr c72
                      have c72b1 : ((ji45) != 4) = false := bne_eq_false_iff_eq.mpr c72
                      clear c72
                      by_cases c73 : 0 ≤ (ji44)
                      rotate_left
                      · rw [if_neg c73] at H
                        exact absurd H (by simp)
                      rw [if_pos c73] at H
                      have c73b0 : decide (0 ≤ (ji44)) = true := decide_eq_true c73
                      clear c73
                      by_cases c74 : (ji44) < (t421.length : Int)
                      rotate_left
                      · rw [if_neg c74] at H
                        exact absurd H (by simp)
                      rw [if_pos c74] at H
                      have c74b0 : decide ((ji44) < (t421.length : Int)) = true := decide_eq_true c74
                      clear c74
                      by_cases c75 : ((rd_T41 t421 (ji44)).f0).size + 1 ≤ 9223372036854775807
                      rotate_left
                      · rw [if_neg c75] at H
                        exact absurd H (by simp)
                      rw [if_pos c75] at H
                      have c75b0 := eq_true c75
                      have c75b1 : decide (((rd_T41 t421 (ji44)).f0).size + 1 ≤ 9223372036854775807) = true := decide_eq_true c75
                      try have c75b2 : (9223372036854775807 < ((rd_T41 t421 (ji44)).f0).size + 1) = False := eq_false (Nat.not_lt.2 c75)
                      try (have c75b4 := c75; simp at c75b4; have c75b5 := eq_false (Nat.not_lt.2 c75b4))
                      obtain ⟨y432, hy432⟩ : ∃ y_ : List (S41), y_ = (t421.set ((ji44) : Int).toNat (⟨((rd_T41 t421 (ji44)).f0) ++ (⟨#[57]⟩ : ByteArray), (rd_T41 t421 (ji44)).f1, (rd_T41 t421 (ji44)).f2⟩ : S41)) := ⟨_, rfl⟩
                      replace H : (damperlaw2_SpecSame.j1 kj11 t405 t406 t407 t410 t419 t420 y432 t424) = some r := by first | (rw [hy432]; with_reducible exact H) | (have H2_ := (Option.bind_some _ _).symm.trans H; rw [hy432]; with_reducible exact H2_) | (have H2_ := (Option.bind_some _ _).symm.trans H; with_reducible exact H2_) | with_reducible exact H | (rw [hy432]; exact H) | exact H
                      have Ny432 := Aside0.mk hy432
                      clear hy432
                      have H' := Aside0.mk H
                      clear H
                      try go_wp2_with (first | (go_at_call 15; refine (damperlaw2_within.keep _ _ rfl (by first | decide | assumption | exact wi_ne (by assumption) | exact wi_ne' (by assumption) | omega) _).mono ?_; rintro e w' ⟨rfl, rfl⟩))
                      replace HO_418002 := Aside0.mk (Kd.R_drew HO_418002.out)
                      replace HO_419002 := Aside0.mk (Kd.R_drew HO_419002.out)
                      replace HO_426002 := Aside0.mk (Kd.R_drew HO_426002.out)
                      replace BK417 := Aside0.mk (blk_drew BK417.out)
                      replace BK418 := Aside0.mk (blk_drew BK418.out)
                      replace BK425 := Aside0.mk (blk_drew BK425.out)
                      replace HB := Aside0.mk (below_drew1 HB.out)
                      have p431 : 0 ≤ ((ji44) : Int) := of_decide_eq_true (by first | (with_reducible assumption) | assumption)
                      have q431 : (ji44) < (t421.length : Int) := of_decide_eq_true (by first | (with_reducible assumption) | assumption)
                      obtain ⟨ad431, e431, hx431_0, hx431_1, hx431_2⟩ := at_T41 (Kd.R_reads' HO_426002.out).2.2 (ji44) p431 q431
                      cases e431
                      replace p431 := eq_true p431
                      replace q431 := eq_true q431
                      have p76 : 0 ≤ ((ji44) : Int) := of_decide_eq_true (by first | (with_reducible assumption) | assumption)
                      have q76 : ((ji44) : Int) < ((t421.length : Int) : Int) := of_decide_eq_true (by first | (with_reducible assumption) | assumption)
                      obtain ⟨go76, co76, eo76, gb76, gl76, cl76, HG76⟩ := Kd.R_form HO_426002.out (by omega)
                      (first | cases eo76 | (injection eo76 with ea_ en_ ec_; (first | subst ea_ | (injection ea_ with ea_; subst ea_)); subst ec_; clear en_))
                      have GB76 := Aside0.mk gb76
                      have GG76 := Aside0.mk HG76
                      clear gb76 gl76 HG76
                      (first | simp only [add_plain] at hx431_0 | skip)
                      (first | simp only [add_plain] at hx431_1 | skip)
                      (first | simp only [add_plain] at hx431_2 | skip)
                      obtain ⟨ce76, hcl76, hM76, hcc76, hfr76⟩ := Kd.R_elem HO_426002.out z41 ((ji44) : Int) p76 q76
                      obtain rfl := k41_openM hM76
                      have hx76_0 : World.cell? _ ⟨go76, ((ji44) : Int).toNat * 3, none⟩ = some (.string ((rd_T41 t421 (ji44)).f0)) := hcc76 0 _ rfl
                      have hx76_1 : World.cell? _ ⟨go76, ((ji44) : Int).toNat * 3 + 1, none⟩ = some (.string ((rd_T41 t421 (ji44)).f1)) := hcc76 1 _ rfl
                      have hx76_2 : World.cell? _ ⟨go76, ((ji44) : Int).toNat * 3 + 2, none⟩ = some (.int .i64 ((rd_T41 t421 (ji44)).f2)) := hcc76 2 _ rfl
                      have hf76_0 : World.frozen? _ ⟨go76, ((ji44) : Int).toNat * 3, none⟩ = false := hfr76 0
                      have hf76_1 : World.frozen? _ ⟨go76, ((ji44) : Int).toNat * 3 + 1, none⟩ = false := hfr76 1
                      have hf76_2 : World.frozen? _ ⟨go76, ((ji44) : Int).toNat * 3 + 2, none⟩ = false := hfr76 2
                      clear hcl76 hcc76 hfr76 hM76
                      replace p76 := eq_true p76
                      replace q76 := eq_true q76
                      obtain ⟨ce78, hcl78, hM78, hcc78, hfr78⟩ := Kd.R_elem HO_426002.out z41 ((ji44) : Int) (of_decide_eq_true (by first | (with_reducible assumption) | assumption)) (by have h_ : ((ji44) : Int) < ((t421.length : Int) : Int) := of_decide_eq_true (by first | (with_reducible assumption) | assumption); first | exact h_ | (have e_ := (Kd.R_reads' HO_426002.out).1; omega) | simpa using h_)
                      obtain rfl := k41_openM hM78
                      have HP78 := (Kd.R_seg HO_426002.out ((ji44) : Int) (of_decide_eq_true (by first | (with_reducible assumption) | assumption)) (by have h_ : ((ji44) : Int) < ((t421.length : Int) : Int) := of_decide_eq_true (by first | (with_reducible assumption) | assumption); first | exact h_ | (have e_ := (Kd.R_reads' HO_426002.out).1; omega) | simpa using h_) (seg := [.string (((rd_T41 t421 (ji44)).f0) ++ (⟨#[57]⟩ : ByteArray))]) (j := 0) hcl78 hcc78 (show 1 ≤ 3 from by decide) (x' := (⟨((rd_T41 t421 (ji44)).f0) ++ (⟨#[57]⟩ : ByteArray), (rd_T41 t421 (ji44)).f1, (rd_T41 t421 (ji44)).f2⟩ : S41)) (k41_mkM _ _ _ (⟨((rd_T41 t421 (ji44)).f0) ++ (⟨#[57]⟩ : ByteArray), (rd_T41 t421 (ji44)).f1, (rd_T41 t421 (ji44)).f2⟩ : S41) ) (fun _ hk => hk)).1
                      rw [← Ny432.out] at HP78
                      have HQ78 := Aside0.mk HP78
                      clear hcl78 hcc78 hfr78 hM78 HP78
                      refine start_ (n := 13) (S := fun w' => w'.cell? ⟨gb425, 0, none⟩ = some (.string t419) ∧ w'.cell? ⟨gb425, 1, none⟩ = some (.string t420) ∧ w'.cell? ⟨gb425, 2, none⟩ = some (.slice (some ⟨go76, 0, none⟩) t421.length co28) ∧ w'.cell? ⟨gb425, 3, none⟩ = some (.int .i64 t424) ∧ w'.cell? ⟨go76, ((ji44)).toNat * 3, none⟩ = some (.string ((rd_T41 t421 (ji44)).f0)) ∧ w'.cell? ⟨go76, ((ji44)).toNat * 3 + 1, none⟩ = some (.string ((rd_T41 t421 (ji44)).f1)) ∧ w'.cell? ⟨go76, ((ji44)).toNat * 3 + 2, none⟩ = some (.int .i64 ((rd_T41 t421 (ji44)).f2))) (ds := [12]) #[false, false, false, false, false, false, false, false, false, false, false, false, false] (by kernel_rfl) rfl rfl ⟨bc BK425 0, bc BK425 1, bc BK425 2, bc BK425 3, hx431_0, hx431_1, hx431_2⟩ (fun hHeld => ?_); refine with_tabW damperlaw2_SpecSame.tab18 damperlaw2_SpecSame.bits18 (fun HT_ HW_ => ?_)
                      generalize wc.drew = w77 at HO_418002 HO_419002 HO_426002 BK417 BK418 BK425 HB GG76 HQ78 hf76_0 hf76_1 hf76_2 hx431_0 hx431_1 hx431_2 hx76_0 hx76_1 hx76_2 hHeld ⊢
                      refine pure_ (i := 0) (N := some 79) (v := ?_) (a' := ?_) #[true, false, false, false, false, false, false, false, false, false, false, false, false] rfl rfl (any_of HT_.out (by kernel_rfl)) (fun _ _ _ h => h) (Or.inl ⟨by rfl, ?_⟩) ?_ ?_
                      rotate_left
                      · intro w'
                        go_simp
                        with_reducible rfl
                      rotate_left
                      · simp only [Act.put, List.setIfInBounds_toArray, List.set_cons_zero, List.set_cons_succ, i64_w, i32_w]
                        rfl
                      refine pure_ (i := 2) (N := some 81) (v := ?_) (a' := ?_) #[true, false, true, false, false, false, false, false, false, false, false, false, false] rfl rfl (any_of HT_.out (by kernel_rfl)) (fun _ _ _ h => h) (Or.inl ⟨by rfl, ?_⟩) ?_ ?_
                      rotate_left
                      · intro w'
                        go_simp
                        with_reducible rfl
                      rotate_left
                      · simp only [Act.put, List.setIfInBounds_toArray, List.set_cons_zero, List.set_cons_succ, i64_w, i32_w]
                        rfl
                      refine pure_ (i := 3) (N := some 82) (v := ?_) (a' := ?_) #[true, false, true, true, false, false, false, false, false, false, false, false, false] rfl rfl (any_of HT_.out (by kernel_rfl)) (fun _ _ _ h => h) (Or.inl ⟨by rfl, ?_⟩) ?_ ?_
                      rotate_left
                      · intro w'
                        go_simp
                        with_reducible rfl
                      rotate_left
                      · simp only [Act.put, List.setIfInBounds_toArray, List.set_cons_zero, List.set_cons_succ, i64_w, i32_w]
                        rfl
                      refine pure_ (i := 5) (N := some 84) (v := ?_) (a' := ?_) #[true, false, true, true, false, true, false, false, false, false, false, false, false] rfl rfl (any_of HT_.out (by kernel_rfl)) (fun _ _ _ h => h) (Or.inl ⟨by rfl, ?_⟩) ?_ ?_
                      rotate_left
                      · intro w'
                        go_simp
                        with_reducible rfl
                      rotate_left
                      · simp only [Act.put, List.setIfInBounds_toArray, List.set_cons_zero, List.set_cons_succ, i64_w, i32_w]
                        rfl
                      refine take_ (i := 1) (N := some 80) (v := ?_) (a' := ?_) #[true, true, true, true, false, true, false, false, false, false, false, false, false] rfl rfl (take_ofW HT_.out HW_.out (by kernel_rfl)) (fun _ _ _ h => h) (Or.inl ⟨by rfl, ?_⟩) hHeld ?_ ?_
                      rotate_left
                      · rintro w' ⟨s0, s1, s2, s3, s4, s5, s6⟩
                        go_simp
                        with_reducible rfl
                      rotate_left
                      · simp only [Act.put, List.setIfInBounds_toArray, List.set_cons_zero, List.set_cons_succ, i64_w, i32_w]
                        rfl
                      refine take_ (i := 4) (N := some 83) (v := ?_) (a' := ?_) #[true, true, true, true, true, true, false, false, false, false, false, false, false] rfl rfl (take_ofW HT_.out HW_.out (by kernel_rfl)) (fun _ _ _ h => h) (Or.inl ⟨by rfl, ?_⟩) hHeld ?_ ?_
                      rotate_left
                      · rintro w' ⟨s0, s1, s2, s3, s4, s5, s6⟩
                        go_simp
                        with_reducible rfl
                      rotate_left
                      · simp only [Act.put, List.setIfInBounds_toArray, List.set_cons_zero, List.set_cons_succ, i64_w, i32_w]
                        rfl
                      refine pure_ (i := 6) (N := some 85) (v := ?_) (a' := ?_) #[true, true, true, true, true, true, true, false, false, false, false, false, false] rfl rfl (any_of HT_.out (by kernel_rfl)) (fun _ _ _ h => h) (Or.inl ⟨by rfl, ?_⟩) ?_ ?_
                      rotate_left
                      · intro w'
                        go_simp
                        with_reducible rfl
                      rotate_left
                      · simp only [Act.put, List.setIfInBounds_toArray, List.set_cons_zero, List.set_cons_succ, i64_w, i32_w]
                        rfl
                      refine pure_ (i := 7) (N := some 86) (v := ?_) (a' := ?_) #[true, true, true, true, true, true, true, true, false, false, false, false, false] rfl rfl (any_of HT_.out (by kernel_rfl)) (fun _ _ _ h => h) (Or.inl ⟨by rfl, ?_⟩) ?_ ?_
                      rotate_left
                      · intro w'
                        go_simp
                        with_reducible rfl
                      rotate_left
                      · simp only [Act.put, List.setIfInBounds_toArray, List.set_cons_zero, List.set_cons_succ, i64_w, i32_w]
                        rfl
                      refine take_ (i := 8) (N := some 87) (v := ?_) (a' := ?_) #[true, true, true, true, true, true, true, true, true, false, false, false, false] rfl rfl (take_ofW HT_.out HW_.out (by kernel_rfl)) (fun _ _ _ h => h) (Or.inl ⟨by rfl, ?_⟩) hHeld ?_ ?_
                      rotate_left
                      · rintro w' ⟨s0, s1, s2, s3, s4, s5, s6⟩
                        go_simp
                        with_reducible rfl
                      rotate_left
                      · simp only [Act.put, List.setIfInBounds_toArray, List.set_cons_zero, List.set_cons_succ, i64_w, i32_w]
                        rfl
                      refine pure_ (i := 9) (N := some 88) (v := ?_) (a' := ?_) #[true, true, true, true, true, true, true, true, true, true, false, false, false] rfl rfl (any_of HT_.out (by kernel_rfl)) (fun _ _ _ h => h) (Or.inl ⟨by rfl, ?_⟩) ?_ ?_
                      rotate_left
                      · intro w'
                        go_simp
                        with_reducible rfl
                      rotate_left
                      · simp only [Act.put, List.setIfInBounds_toArray, List.set_cons_zero, List.set_cons_succ, i64_w, i32_w]
                        rfl
                      refine pure_ (i := 10) (N := some 89) (v := ?_) (a' := ?_) #[true, true, true, true, true, true, true, true, true, true, true, false, false] rfl rfl (any_of HT_.out (by kernel_rfl)) (fun _ _ _ h => h) (Or.inl ⟨by rfl, ?_⟩) ?_ ?_
                      rotate_left
                      · intro w'
                        go_simp
                        with_reducible rfl
                      rotate_left
                      · simp only [Act.put, List.setIfInBounds_toArray, List.set_cons_zero, List.set_cons_succ, i64_w, i32_w]
                        rfl
                      refine pure_ (i := 11) (N := some 90) (v := ?_) (a' := ?_) #[true, true, true, true, true, true, true, true, true, true, true, true, false] rfl rfl (any_of HT_.out (by kernel_rfl)) (fun _ _ _ h => h) (Or.inl ⟨by rfl, ?_⟩) ?_ ?_
                      rotate_left
                      · intro w'
                        go_simp
                        with_reducible rfl
                      rotate_left
                      · simp only [Act.put, List.setIfInBounds_toArray, List.set_cons_zero, List.set_cons_succ, i64_w, i32_w]
                        rfl
                      refine last_ (i := 12) (N := none) #[true, true, true, true, true, true, true, true, true, true, true, true, true] rfl rfl (one_of HT_.out (by kernel_rfl)) (by decide) (fun K hK => ?_)
                      with_reducible_and_instances refine skip_ (w1 := ?_) ?hw_ ?hN_ ?_ ?_
                      (case hw_ => rfl)
                      (case hN_ => rfl)
                      rotate_left
                      · go_simp
                        rfl
                      refine hK.out _ _ ?_
                      clear hK K
                      refine done_ (done_of HT_.out (by kernel_rfl)) ?_
                      try go_wp2_with (first | (go_at_call 15; refine (damperlaw2_within.keep _ _ rfl (by first | decide | assumption | exact wi_ne (by assumption) | exact wi_ne' (by assumption) | omega) _).mono ?_; rintro e w' ⟨rfl, rfl⟩))
                      go_meet
                      case rel => exact ⟨_, (t407), (t413), (t419), (t420), (y432), (t424), (.slice Ao20 t407.length co20), (.slice Ao22 t413.length co22), (.slice (some ⟨go76, 0, none⟩) t421.length co28), H', ⟨by have := HJ11.out; first | omega | exact Nat.le_refl _⟩, ⟨by (with_reducible repeat (first | apply Kd.R_alloc | apply Kd.R_drewN | apply Kd.R_drew)); exact Kd.R_mono (Kd.R_far (p := ⟨go76, ((ji44) : Int).toNat * 3, none⟩) (Kd.R_mono HO_418002.out (fun k_ hk => (⟨hk, fun e_ => hk.2 (by rw [e_]; rfl)⟩ : _ ∧ k_ ≠ go76))) (fun _ hk => hk.2) (.string (((rd_T41 t421 (ji44)).f0) ++ (⟨#[57]⟩ : ByteArray)))) (fun _ hk => ⟨hk.1.1, hk.1.2⟩)⟩, ⟨by (with_reducible repeat (first | apply Kd.R_alloc | apply Kd.R_drewN | apply Kd.R_drew)); exact Kd.R_mono (Kd.R_far (p := ⟨go76, ((ji44) : Int).toNat * 3, none⟩) (Kd.R_mono HO_419002.out (fun k_ hk => (⟨hk, fun e_ => hk.2 (by rw [e_]; rfl)⟩ : _ ∧ k_ ≠ go76))) (fun _ hk => hk.2) (.string (((rd_T41 t421 (ji44)).f0) ++ (⟨#[57]⟩ : ByteArray)))) (fun _ hk => ⟨hk.1.1, hk.1.2⟩)⟩, ⟨by (with_reducible repeat (first | apply Kd.R_alloc | apply Kd.R_drewN | apply Kd.R_drew)); exact HQ78.out⟩, ⟨by (with_reducible repeat (first | refine blk_drewN ?_ _ | refine blk_drew ?_ | refine blk_alloc ?_ _)); refine blk_far ?_ (by have h_ := Kd.R_ne HO_426002.out BK417.out (by decide); intro e_; exact h_ (by rw [e_]; rfl)) _; (with_reducible repeat (first | refine blk_drewN ?_ _ | refine blk_drew ?_ | refine blk_alloc ?_ _)); exact BK417.out⟩, ⟨by (with_reducible repeat (first | refine blk_drewN ?_ _ | refine blk_drew ?_ | refine blk_alloc ?_ _)); refine blk_far ?_ (by have h_ := Kd.R_ne HO_426002.out BK418.out (by decide); intro e_; exact h_ (by rw [e_]; rfl)) _; (with_reducible repeat (first | refine blk_drewN ?_ _ | refine blk_drew ?_ | refine blk_alloc ?_ _)); exact BK418.out⟩, ⟨by (with_reducible repeat (first | refine blk_drewN ?_ _ | refine blk_drew ?_ | refine blk_alloc ?_ _)); refine blk_far ?_ (by have h_ := Kd.R_ne HO_426002.out BK425.out (by decide); intro e_; exact h_ (by rw [e_]; rfl)) _; (with_reducible repeat (first | refine blk_drewN ?_ _ | refine blk_drew ?_ | refine blk_alloc ?_ _)); exact BK425.out⟩, ⟨by repeat (first | (with_reducible first | exact HB.out | apply below_alloc | apply pw_below_drewN | apply below_drew1 | refine below_set ?_ GB76.out | refine below_set ?_ GE417.out | refine below_set ?_ GE418.out | refine below_set ?_ GE425.out) | exact HB.out)⟩⟩
                    · rw [if_neg c72] at H
                      have c72b0 : ((ji45) == 4) = false := beq_eq_false_iff_ne.mpr c72
                      have c72b1 : ((ji45) != 4) = true := bne_iff_ne.mpr c72
                      by_cases c79 : (ji45) = 5
                      · rw [if_pos c79] at H
                        have c79b0 : ((ji45) == 5) = true := beq_iff_eq.mpr c79
                        have c79b1 : ((ji45) != 5) = false := bne_eq_false_iff_eq.mpr c79
                        clear c79
                        by_cases c80 : t421.length < 3518437208883
                        rotate_left
                        · rw [if_neg c80] at H
                          exact absurd H (by simp)
                        rw [if_pos c80] at H
                        have LMc80 := Aside0.mk c80
                        clear c80
                        obtain ⟨y433, hy433⟩ : ∃ y_ : List (S41), y_ = (t421 ++ [(⟨(⟨#[]⟩ : ByteArray), (⟨#[]⟩ : ByteArray), 0⟩ : S41)]) := ⟨_, rfl⟩
                        replace H : (damperlaw2_SpecSame.j1 kj11 t405 t406 t407 t410 t419 t420 y433 t424) = some r := by first | (rw [hy433]; with_reducible exact H) | (have H2_ := (Option.bind_some _ _).symm.trans H; rw [hy433]; with_reducible exact H2_) | (have H2_ := (Option.bind_some _ _).symm.trans H; with_reducible exact H2_) | with_reducible exact H | (rw [hy433]; exact H) | exact H
                        have Ny433 := Aside0.mk hy433
                        clear hy433
                        have H' := Aside0.mk H
                        clear H
                        have hnb81 := NB425_417.out
                        have hnc81 := NB417_425.out
                        have hnb82 := NB425_418.out
                        have hnc82 := NB418_425.out
                        have hcz83_0 : wc.cell? ⟨gb425, 0, none⟩ = some (.string t419) := bc BK425 0
                        have hcz83_1 : wc.cell? ⟨gb425, 1, none⟩ = some (.string t420) := bc BK425 1
                        have hcz83_2 : wc.cell? ⟨gb425, 2, none⟩ = some (.slice Ao28 t421.length co28) := bc BK425 2
                        have hcz83_3 : wc.cell? ⟨gb425, 3, none⟩ = some (.int .i64 t424) := bc BK425 3
                        have hfz83_0 := blk_frozen BK425.out 0
                        have hfz83_1 := blk_frozen BK425.out 1
                        have hfz83_2 := blk_frozen BK425.out 2
                        have hfz83_3 := blk_frozen BK425.out 3
                        go_wp2_with (first | (go_at_call 15; refine (damperlaw2_within.keep _ _ rfl (by first | decide | assumption | exact wi_ne (by assumption) | exact wi_ne' (by assumption) | omega) _).mono ?_; rintro e w' ⟨rfl, rfl⟩) | ((with_reducible refine gate_builtin (b := .append) (xs := #[.tmp 94, .tmp 96]) rfl ?_); at_builtin; refine Kd.R_append k41 (w0 := w) w.heap.size rfl (.tmp 94) (.tmp 96) 33 41 (.agg #[(.string ⟨#[]⟩), (.string ⟨#[]⟩), (.int .i64 0)]) 40 rfl Tryd.underlying33 info41 rfl (by decide) (by omega) (.slice Ao28 t421.length co28) t421 (⟨(⟨#[]⟩ : ByteArray), (⟨#[]⟩ : ByteArray), 0⟩ : S41) [.string (⟨#[]⟩ : ByteArray), .string (⟨#[]⟩ : ByteArray), .int .i64 0] (fun k_ => some k_ ≠ (.slice Ao20 t407.length co20 : Value).ownBlock ∧ some k_ ≠ (.slice Ao22 t413.length co22 : Value).ownBlock) (fun _ => False) rfl rfl ?aP (fun _ hk => hk.elim) ?aF ?aO ?aB ?aS ?aL ?_; (case aP => exact k41_mkM _ _ _ (⟨(⟨#[]⟩ : ByteArray), (⟨#[]⟩ : ByteArray), 0⟩ : S41)); (case aB => exact (by repeat (first | (with_reducible first | exact HB.out | apply below_alloc | apply pw_below_drewN | apply below_drew1 | refine below_set ?_ GE417.out | refine below_set ?_ GE418.out | refine below_set ?_ GE425.out) | exact HB.out))); (case aF => exact (fun k_ hk => ⟨Kd.fresh' (Kd.R_lt (by (with_reducible repeat (first | apply Kd.R_alloc | apply Kd.R_drewN | apply Kd.R_drew)); exact HO_418002.out)) k_ hk, Kd.fresh' (Kd.R_lt (by (with_reducible repeat (first | apply Kd.R_alloc | apply Kd.R_drewN | apply Kd.R_drew)); exact HO_419002.out)) k_ hk⟩)); (case aO => exact (by (with_reducible repeat (first | apply Kd.R_alloc | apply Kd.R_drewN | apply Kd.R_drew)); exact HO_426002.out)); (case aS => exact (below_size (by repeat (first | (with_reducible first | exact HB.out | apply below_alloc | apply pw_below_drewN | apply below_drew1 | refine below_set ?_ GE417.out | refine below_set ?_ GE418.out | refine below_set ?_ GE425.out) | exact HB.out)))); (case aL => have := LMc80.out; omega); intro v434 w84 ho hb hg hat; rw [← Ny433.out] at ho; have n0_ := Aside0.mk (Kd.R_after (ok := (fun k_ => some k_ ≠ (.slice Ao22 t413.length co22 : Value).ownBlock)) (by (with_reducible repeat (first | apply Kd.R_alloc | apply Kd.R_drewN | apply Kd.R_drew)); exact HO_418002.out) hg hat); have n1_ := Aside0.mk (Kd.R_after (ok := (fun k_ => some k_ ≠ (.slice Ao20 t407.length co20 : Value).ownBlock)) (by (with_reducible repeat (first | apply Kd.R_alloc | apply Kd.R_drewN | apply Kd.R_drew)); exact HO_419002.out) hg hat); have n2_ := Aside0.mk (blk_grown (g := gb417) (pk BK417) hg (Kd.R_ne HO_426002.out BK417.out (by decide))); have n3_ := Aside0.mk (blk_grown (g := gb418) (pk BK418) hg (Kd.R_ne HO_426002.out BK418.out (by decide))); have n4_ := Aside0.mk (blk_grown (g := gb425) (pk BK425) hg (Kd.R_ne HO_426002.out BK425.out (by decide))); have n5_ := Aside0.mk (hb); have n6_ := Aside0.mk (ho); clear HO_418002; clear HO_419002; clear BK417; clear BK418; clear BK425; clear HB; clear HO_426002; have HO_418002 := n0_; have HO_419002 := n1_; have BK417 := n2_; have BK418 := n3_; have BK425 := n4_; have HB := n5_; have HO435 := n6_; clear n0_ n1_ n2_ n3_ n4_ n5_ n6_; clear ho hb hg hat; obtain ⟨Ao85, co85, eo85⟩ := Kd.R_slice HO435.out; subst eo85; have hcz86_0 : w84.cell? ⟨gb425, 0, none⟩ = some (.string t419) := bc BK425 0; have hcz86_1 : w84.cell? ⟨gb425, 1, none⟩ = some (.string t420) := bc BK425 1; have hcz86_2 : w84.cell? ⟨gb425, 2, none⟩ = some (.slice Ao28 t421.length co28) := bc BK425 2; have hcz86_3 : w84.cell? ⟨gb425, 3, none⟩ = some (.int .i64 t424) := bc BK425 3; have hfz86_0 := blk_frozen BK425.out 0; have hfz86_1 := blk_frozen BK425.out 1; have hfz86_2 := blk_frozen BK425.out 2; have hfz86_3 := blk_frozen BK425.out 3))
                        go_meet
                        case rel => exact ⟨_, (t407), (t413), (t419), (t420), (y433), (t424), (.slice Ao20 t407.length co20), (.slice Ao22 t413.length co22), (.slice Ao85 y433.length co85), H', ⟨by have := HJ11.out; first | omega | exact Nat.le_refl _⟩, ⟨by (with_reducible repeat (first | apply Kd.R_alloc | apply Kd.R_drewN | apply Kd.R_drew)); exact Kd.R_mono (Kd.R_far (p := ⟨gb425, 2, none⟩) (Kd.R_types HO_418002.out BK425.out (by decide)) (fun _ hk => hk.2) (.slice Ao85 y433.length co85)) (fun _ hk => ⟨hk.1.1, hk.1.2⟩)⟩, ⟨by (with_reducible repeat (first | apply Kd.R_alloc | apply Kd.R_drewN | apply Kd.R_drew)); exact Kd.R_mono (Kd.R_far (p := ⟨gb425, 2, none⟩) (Kd.R_types HO_419002.out BK425.out (by decide)) (fun _ hk => hk.2) (.slice Ao85 y433.length co85)) (fun _ hk => ⟨hk.1.1, hk.1.2⟩)⟩, ⟨by (with_reducible repeat (first | apply Kd.R_alloc | apply Kd.R_drewN | apply Kd.R_drew)); exact Kd.R_mono (Kd.R_far (p := ⟨gb425, 2, none⟩) (Kd.R_types HO435.out BK425.out (by decide)) (fun _ hk => hk.2) (.slice Ao85 y433.length co85)) (fun _ hk => ⟨hk.1.1, hk.1.2⟩)⟩, ⟨by (with_reducible repeat (first | refine blk_drewN ?_ _ | refine blk_drew ?_ | refine blk_alloc ?_ _)); refine blk_far ?_ NB417_425.out _; (with_reducible repeat (first | refine blk_drewN ?_ _ | refine blk_drew ?_ | refine blk_alloc ?_ _)); exact BK417.out⟩, ⟨by (with_reducible repeat (first | refine blk_drewN ?_ _ | refine blk_drew ?_ | refine blk_alloc ?_ _)); refine blk_far ?_ NB418_425.out _; (with_reducible repeat (first | refine blk_drewN ?_ _ | refine blk_drew ?_ | refine blk_alloc ?_ _)); exact BK418.out⟩, ⟨by (with_reducible repeat (first | refine blk_drewN ?_ _ | refine blk_drew ?_ | refine blk_alloc ?_ _)); refine blk_put (cs := #[.string t419, .string t420, .slice Ao28 t421.length co28, .int .i64 t424]) ?_ 2 _ rfl; (with_reducible repeat (first | refine blk_drewN ?_ _ | refine blk_drew ?_ | refine blk_alloc ?_ _)); exact BK425.out⟩, ⟨by repeat (first | (with_reducible first | exact HB.out | apply below_alloc | apply pw_below_drewN | apply below_drew1 | refine below_set ?_ GE417.out | refine below_set ?_ GE418.out | refine below_set ?_ GE425.out) | exact HB.out)⟩⟩
                      · rw [if_neg c79] at H
                        have c79b0 : ((ji45) == 5) = false := beq_eq_false_iff_ne.mpr c79
                        have c79b1 : ((ji45) != 5) = true := bne_iff_ne.mpr c79
                        have H' := Aside0.mk H
                        clear H
                        go_wp2_with (first | (go_at_call 15; refine (damperlaw2_within.keep _ _ rfl (by first | decide | assumption | exact wi_ne (by assumption) | exact wi_ne' (by assumption) | omega) _).mono ?_; rintro e w' ⟨rfl, rfl⟩))
                        go_meet
                        case rel => exact ⟨_, (t407), (t413), (t419), (t420), (t421), (t424), (.slice Ao20 t407.length co20), (.slice Ao22 t413.length co22), (.slice Ao28 t421.length co28), H', ⟨by have := HJ11.out; first | omega | exact Nat.le_refl _⟩, ⟨by (with_reducible repeat (first | apply Kd.R_alloc | apply Kd.R_drewN | apply Kd.R_drew)); exact HO_418002.out⟩, ⟨by (with_reducible repeat (first | apply Kd.R_alloc | apply Kd.R_drewN | apply Kd.R_drew)); exact HO_419002.out⟩, ⟨by (with_reducible repeat (first | apply Kd.R_alloc | apply Kd.R_drewN | apply Kd.R_drew)); exact HO_426002.out⟩, ⟨by (with_reducible repeat (first | refine blk_drewN ?_ _ | refine blk_drew ?_ | refine blk_alloc ?_ _)); exact BK417.out⟩, ⟨by (with_reducible repeat (first | refine blk_drewN ?_ _ | refine blk_drew ?_ | refine blk_alloc ?_ _)); exact BK418.out⟩, ⟨by (with_reducible repeat (first | refine blk_drewN ?_ _ | refine blk_drew ?_ | refine blk_alloc ?_ _)); exact BK425.out⟩, ⟨by repeat (first | (with_reducible first | exact HB.out | apply below_alloc | apply pw_below_drewN | apply below_drew1 | refine below_set ?_ GE417.out | refine below_set ?_ GE418.out | refine below_set ?_ GE425.out) | exact HB.out)⟩⟩
          case rest =>
            clear HC46
            try clear c1
            try clear c2
            try clear p2
            try clear c3
            try clear c4
            try clear p4
            try clear q4
            try clear hx4
            try clear c5
            try clear c6
            try clear p6
            try clear q6
            try clear hx6
            try clear hf6
            try clear c7
            try clear p7
            try clear q7
            try clear hx7
            try clear hf7
            try clear c8
            try clear c9
            try clear c11
            try clear c18
            try clear c22
            try clear c23
            try clear c25
            try clear c26
            try clear c31
            try clear c31b0
            try clear c31b1
            try clear c31b2
            try clear c42
            try clear p42
            try clear q42
            try clear hx42
            try clear c43
            try clear c43b0
            try clear c43b1
            try clear c43b2
            try clear p43
            try clear q43
            try clear hx43
            try clear c47
            try clear c48
            try clear c50
            try clear c50b0
            try clear c50b1
            try clear c51
            try clear c51b0
            try clear c51b1
            try clear c51b2
            try clear c52
            try clear c53
            try clear c55
            try clear c55b0
            try clear c55b1
            try clear c56
            try clear c57
            try clear c59
            try clear c59b0
            try clear c59b1
            try clear c60
            try clear c61
            try clear c63
            try clear c63b0
            try clear c63b1
            try clear c64
            try clear c64b0
            try clear p64
            try clear c65
            try clear c65b0
            try clear c66
            try clear p66
            try clear q66
            try clear hx66
            try clear hf66
            try clear c67
            try clear c68
            try clear c70
            try clear hx70
            try clear hf70
            try clear c72
            try clear c72b0
            try clear c72b1
            try clear c73
            try clear c73b0
            try clear c74
            try clear c74b0
            try clear c75
            try clear c75b0
            try clear c75b1
            try clear c75b2
            try clear c76
            try clear p76
            try clear q76
            try clear hx76
            try clear hf76
            try clear c78
            try clear c79
            try clear c79b0
            try clear c79b1
            try clear c80
            try clear c81
            try clear c82
            try clear hcz19_0
            try clear hcz19_1
            try clear hcz19_2
            try clear hcz19_3
            try clear hcz21_0
            try clear hcz21_1
            try clear hcz21_2
            try clear hcz21_3
            try clear hcz27_0
            try clear hcz27_1
            try clear hcz27_2
            try clear hcz27_3
            try clear hcz49_0
            try clear hcz49_1
            try clear hcz49_2
            try clear hcz49_3
            try clear hcz54_0
            try clear hcz54_1
            try clear hcz54_2
            try clear hcz54_3
            try clear hcz58_0
            try clear hcz58_1
            try clear hcz58_2
            try clear hcz58_3
            try clear hcz62_0
            try clear hcz62_1
            try clear hcz62_2
            try clear hcz62_3
            try clear hcz69_0
            try clear hcz69_1
            try clear hcz69_2
            try clear hcz69_3
            try clear hcz83_0
            try clear hcz83_1
            try clear hcz83_2
            try clear hcz83_3
            try clear hcz86_0
            try clear hcz86_1
            try clear hcz86_2
            try clear hcz86_3
            try clear hfz19_0
            try clear hfz19_1
            try clear hfz19_2
            try clear hfz19_3
            try clear hfz21_0
            try clear hfz21_1
            try clear hfz21_2
            try clear hfz21_3
            try clear hfz27_0
            try clear hfz27_1
            try clear hfz27_2
            try clear hfz27_3
            try clear hfz49_0
            try clear hfz49_1
            try clear hfz49_2
            try clear hfz49_3
            try clear hfz54_0
            try clear hfz54_1
            try clear hfz54_2
            try clear hfz54_3
            try clear hfz58_0
            try clear hfz58_1
            try clear hfz58_2
            try clear hfz58_3
            try clear hfz62_0
            try clear hfz62_1
            try clear hfz62_2
            try clear hfz62_3
            try clear hfz69_0
            try clear hfz69_1
            try clear hfz69_2
            try clear hfz69_3
            try clear hfz83_0
            try clear hfz83_1
            try clear hfz83_2
            try clear hfz83_3
            try clear hfz86_0
            try clear hfz86_1
            try clear hfz86_2
            try clear hfz86_3
            try clear hx429_0
            try clear hx429_1
            try clear hx429_2
            try clear hx431_0
            try clear hx431_1
            try clear hx431_2
            try clear hx66_0
            try clear hx66_1
            try clear hx66_2
            try clear hx70_2
            try clear hx76_0
            try clear hx76_1
            try clear hx76_2
            try clear p2
            try clear p429
            try clear p431
            try clear p66
            try clear p76
            try clear q429
            try clear q431
            try clear q66
            try clear q76
            obtain ⟨kq, x418002_45, x419002_45, x426000_45, x426001_45, x426002_45, x426003_45, u418002, u419002, u426002, HA, HJ45, HO_418002, HO_419002, HO_426002, BK417, BK418, BK425, HB⟩ := hcut
            cases kq with
            | zero => exact absurd HA.out (by simp [damperlaw2_SpecSame.j1])
            | succ kj45 =>
              have H := HA.out
              clear HA
              simp only [damperlaw2_SpecSame.j1] at H
              replace H := Option.bind_eq_some_iff.mp H
              obtain ⟨t436, A870, H⟩ := H
              replace H : (if t436 = true then (some false) else ((spec_SameRoute.f x426000_45 x426001_45 x426002_45 x426003_45 t405 t406 x418002_45 t410).bind fun t437 => (some (!t437)))) = some r := H
              have A87 := Aside0.mk A870
              clear A870
              by_cases c88 : t436 = true
              · subst c88
                have H1 : (some false) = some r := by rw [if_pos rfl] at H; exact H
                clear H
                have H := H1
                clear H1
                exact absurd (Option.some.inj H) (by rw [hr0_.out]; decide)
              · replace c88 := Bool.eq_false_iff.mpr c88
                subst c88
                have H1 : ((spec_SameRoute.f x426000_45 x426001_45 x426002_45 x426003_45 t405 t406 x418002_45 t410).bind fun t437 => (some (!t437))) = some r := by rw [if_neg (show ¬ (false = true) by decide)] at H; exact H
                clear H
                have H := H1
                clear H1
                replace H := Option.bind_eq_some_iff.mp H
                obtain ⟨t437, A890, H⟩ := H
                replace H : (some (!t437)) = some r := H
                have A89 := Aside0.mk A890
                clear A890
                obtain rfl := Option.some.inj H
                have hnb90 := NB417_418.out
                have hnc90 := NB418_417.out
                have hnb91 := NB417_425.out
                have hnc91 := NB425_417.out
                have hcz92_0 : wc.cell? ⟨gb417, 0, none⟩ = some (.string t405) := bc BK417 0
                have hcz92_1 : wc.cell? ⟨gb417, 1, none⟩ = some (.string t406) := bc BK417 1
                have hcz92_2 : wc.cell? ⟨gb417, 2, none⟩ = some (u418002) := bc BK417 2
                have hcz92_3 : wc.cell? ⟨gb417, 3, none⟩ = some (.int .i64 t410) := bc BK417 3
                have hfz92_0 := blk_frozen BK417.out 0
                have hfz92_1 := blk_frozen BK417.out 1
                have hfz92_2 := blk_frozen BK417.out 2
                have hfz92_3 := blk_frozen BK417.out 3
                have hnb93 := NB425_418.out
                have hnc93 := NB418_425.out
                have hcz94_0 : wc.cell? ⟨gb425, 0, none⟩ = some (.string x426000_45) := bc BK425 0
                have hcz94_1 : wc.cell? ⟨gb425, 1, none⟩ = some (.string x426001_45) := bc BK425 1
                have hcz94_2 : wc.cell? ⟨gb425, 2, none⟩ = some (u426002) := bc BK425 2
                have hcz94_3 : wc.cell? ⟨gb425, 3, none⟩ = some (.int .i64 x426003_45) := bc BK425 3
                have hfz94_0 := blk_frozen BK425.out 0
                have hfz94_1 := blk_frozen BK425.out 1
                have hfz94_2 := blk_frozen BK425.out 2
                have hfz94_3 := blk_frozen BK425.out 3
                obtain ⟨Ao95, co95, eo95⟩ := Kd.R_slice HO_418002.out
                subst eo95
                obtain ⟨Ao96, co96, eo96⟩ := Kd.R_slice HO_426002.out
                subst eo96
                go_wp2_with (first | (go_at_call 15; refine (damperlaw2_within.keep _ _ rfl (by first | decide | assumption | exact wi_ne (by assumption) | exact wi_ne' (by assumption) | omega) _).mono ?_; rintro e w' ⟨rfl, rfl⟩) | ((with_reducible refine gate_callee (f := 22) rfl ?_); refine goesL_ (some 101) rfl rfl Tryd.func22 (by kernel_rfl) rfl #[.agg #[.string t405, .string t406, .slice Ao95 x418002_45.length co95, .int .i64 t410], .agg #[.string x426000_45, .string x426001_45, .slice Ao96 x426002_45.length co96, .int .i64 x426003_45]] rfl (by (try simp only [List.map_toArray, List.map_cons, List.map_nil]); first | done | rfl | (simp only [List.length_drop, List.length_take]; rfl)) ?_; (with_reducible refine (spec_SameRoute.calls t405 t406 _ _ x418002_45 t410 x426000_45 x426001_45 _ _ x426002_45 x426003_45 false _ ?side1 ?side2 ?side3 ?side4 A87.out).mono ?_); (case side1 => repeat (first | exact (Kd.R_reads' HO_418002.out).2.2 | (with_reducible refine Kd.C_alloc ?_ _) | (with_reducible refine Kd.C_drewN ?_ _) | (with_reducible refine Kd.C_drew ?_))); (case side2 => exact (Kd.R_reads' HO_418002.out).2.1); (case side3 => repeat (first | exact (Kd.R_reads' HO_426002.out).2.2 | (with_reducible refine Kd.C_alloc ?_ _) | (with_reducible refine Kd.C_drewN ?_ _) | (with_reducible refine Kd.C_drew ?_))); (case side4 => exact (Kd.R_reads' HO_426002.out).2.1); rintro e w97 ⟨rfl, hb⟩; refine ⟨_, rfl, ?_⟩; have n0_ := Aside0.mk (Kd.R_below (by (with_reducible repeat (first | apply Kd.R_alloc | apply Kd.R_drewN | apply Kd.R_drew)); exact HO_418002.out) hb); have n1_ := Aside0.mk (Kd.R_below (by (with_reducible repeat (first | apply Kd.R_alloc | apply Kd.R_drewN | apply Kd.R_drew)); exact HO_419002.out) hb); have n2_ := Aside0.mk (Kd.R_below (by (with_reducible repeat (first | apply Kd.R_alloc | apply Kd.R_drewN | apply Kd.R_drew)); exact HO_426002.out) hb); have n3_ := Aside0.mk (blk_below (g := gb417) (pk BK417) hb); have n4_ := Aside0.mk (blk_below (g := gb418) (pk BK418) hb); have n5_ := Aside0.mk (blk_below (g := gb425) (pk BK425) hb); have n6_ := Aside0.mk (below_step (by repeat (first | (with_reducible first | exact HB.out | apply below_alloc | apply pw_below_drewN | apply below_drew1 | refine below_set ?_ GE417.out | refine below_set ?_ GE418.out | refine below_set ?_ GE425.out) | exact HB.out)) hb); clear HO_418002; clear HO_419002; clear HO_426002; clear BK417; clear BK418; clear BK425; clear HB; have HO_418002 := n0_; have HO_419002 := n1_; have HO_426002 := n2_; have BK417 := n3_; have BK418 := n4_; have BK425 := n5_; have HB := n6_; clear n0_ n1_ n2_ n3_ n4_ n5_ n6_; (try clear hb); (try clear hb2); (try clear hk); (try clear hi); have hcz98_0 : w97.cell? ⟨gb425, 0, none⟩ = some (.string x426000_45) := bc BK425 0; have hcz98_1 : w97.cell? ⟨gb425, 1, none⟩ = some (.string x426001_45) := bc BK425 1; have hcz98_2 : w97.cell? ⟨gb425, 2, none⟩ = some (.slice Ao96 x426002_45.length co96) := bc BK425 2; have hcz98_3 : w97.cell? ⟨gb425, 3, none⟩ = some (.int .i64 x426003_45) := bc BK425 3; have hfz98_0 := blk_frozen BK425.out 0; have hfz98_1 := blk_frozen BK425.out 1; have hfz98_2 := blk_frozen BK425.out 2; have hfz98_3 := blk_frozen BK425.out 3; have hcz99_0 : w97.cell? ⟨gb417, 0, none⟩ = some (.string t405) := bc BK417 0; have hcz99_1 : w97.cell? ⟨gb417, 1, none⟩ = some (.string t406) := bc BK417 1; have hcz99_2 : w97.cell? ⟨gb417, 2, none⟩ = some (.slice Ao95 x418002_45.length co95) := bc BK417 2; have hcz99_3 : w97.cell? ⟨gb417, 3, none⟩ = some (.int .i64 t410) := bc BK417 3; have hfz99_0 := blk_frozen BK417.out 0; have hfz99_1 := blk_frozen BK417.out 1; have hfz99_2 := blk_frozen BK417.out 2; have hfz99_3 := blk_frozen BK417.out 3) | (go_at_call 22; (with_reducible refine (spec_SameRoute.calls x426000_45 x426001_45 _ _ x426002_45 x426003_45 t405 t406 _ _ x418002_45 t410 t437 _ ?side1 ?side2 ?side3 ?side4 A89.out).mono ?_); (case side1 => repeat (first | exact (Kd.R_reads' HO_426002.out).2.2 | (with_reducible refine Kd.C_alloc ?_ _) | (with_reducible refine Kd.C_drewN ?_ _) | (with_reducible refine Kd.C_drew ?_))); (case side2 => exact (Kd.R_reads' HO_426002.out).2.1); (case side3 => repeat (first | exact (Kd.R_reads' HO_418002.out).2.2 | (with_reducible refine Kd.C_alloc ?_ _) | (with_reducible refine Kd.C_drewN ?_ _) | (with_reducible refine Kd.C_drew ?_))); (case side4 => exact (Kd.R_reads' HO_418002.out).2.1); rintro e w100 ⟨rfl, hb⟩; have n0_ := Aside0.mk (Kd.R_below (by (with_reducible repeat (first | apply Kd.R_alloc | apply Kd.R_drewN | apply Kd.R_drew)); exact HO_418002.out) hb); have n1_ := Aside0.mk (Kd.R_below (by (with_reducible repeat (first | apply Kd.R_alloc | apply Kd.R_drewN | apply Kd.R_drew)); exact HO_419002.out) hb); have n2_ := Aside0.mk (Kd.R_below (by (with_reducible repeat (first | apply Kd.R_alloc | apply Kd.R_drewN | apply Kd.R_drew)); exact HO_426002.out) hb); have n3_ := Aside0.mk (blk_below (g := gb417) (pk BK417) hb); have n4_ := Aside0.mk (blk_below (g := gb418) (pk BK418) hb); have n5_ := Aside0.mk (blk_below (g := gb425) (pk BK425) hb); have n6_ := Aside0.mk (below_step (by repeat (first | (with_reducible first | exact HB.out | apply below_alloc | apply pw_below_drewN | apply below_drew1 | refine below_set ?_ GE417.out | refine below_set ?_ GE418.out | refine below_set ?_ GE425.out) | exact HB.out)) hb); clear HO_418002; clear HO_419002; clear HO_426002; clear BK417; clear BK418; clear BK425; clear HB; have HO_418002 := n0_; have HO_419002 := n1_; have HO_426002 := n2_; have BK417 := n3_; have BK418 := n4_; have BK425 := n5_; have HB := n6_; clear n0_ n1_ n2_ n3_ n4_ n5_ n6_; (try clear hb); (try clear hb2); (try clear hk); (try clear hi)))
                go_ret
                exact ⟨by first | rfl | (simp [errW_none, errW_some] <;> rfl) | (simp only [← hji44, ← hji45]; first | rfl | (simp [errW_none, errW_some] <;> rfl)) | (simp [*, errW_none, errW_some] <;> rfl), by repeat (first | (with_reducible first | exact HB.out | apply below_alloc | apply pw_below_drewN | apply below_drew1 | refine below_set ?_ GE417.out | refine below_set ?_ GE418.out | refine below_set ?_ GE425.out) | exact HB.out)⟩
  · replace c8 := Bool.eq_false_iff.mpr c8
    subst c8
    have H1 : (some false) = some r := by rw [if_neg (show ¬ (false = true) by decide)] at H; exact H
    clear H
    have H := H1
    clear H1
    exact absurd (Option.some.inj H) (by rw [hr0_.out]; decide)

/-- THE ONE PURE STATEMENT of damperlaw2_SpecSame: yours. -/
def damperlaw2_SpecSame.Pure : Prop := ∀ (a0 : Int) (l1 : List Int) (a2 : Int) (l3 : List Int) (a4 : Int) (a5 : Int), ((Lit.int .i64 a0).wf = true) → (l1.length ≤ maxLen ∧ ∀ y_ ∈ l1, (Lit.int .i64 y_).wf = true) → ((Lit.int .i64 a2).wf = true) → (l3.length ≤ maxLen ∧ ∀ y_ ∈ l3, (Lit.int .i64 y_).wf = true) → ((Lit.int .i64 a4).wf = true) → ((Lit.int .i64 a5).wf = true) → ∃ k, damperlaw2_SpecSame.f k a0 l1 a2 l3 a4 a5 = some true
theorem damperlaw2_SpecSame.walk (P : damperlaw2_SpecSame.Pure) (a0 : Int) (A1 : Option Addr) (c1 : Nat) (l1 : List Int) (a2 : Int) (A3 : Option Addr) (c3 : Nat) (l3 : List Int) (a4 : Int) (a5 : Int) (w : World) (hLd_ : LaidW w) (w0 : (Lit.int .i64 a0).wf = true) (w1 : l1.length ≤ maxLen ∧ ∀ y_ ∈ l1, (Lit.int .i64 y_).wf = true) (w2 : (Lit.int .i64 a2).wf = true) (w3 : l3.length ≤ maxLen ∧ ∀ y_ ∈ l3, (Lit.int .i64 y_).wf = true) (w4 : (Lit.int .i64 a4).wf = true) (w5 : (Lit.int .i64 a5).wf = true) (hr1 : Kd.C (Kd.int .i64) w A1 l1.length l1) (hc1 : l1.length ≤ c1) (hr3 : Kd.C (Kd.int .i64) w A3 l3.length l3) (hc3 : l3.length ≤ c3) :
    Calls Tryd.prog 9 #[.int .i64 a0, .slice A1 l1.length c1, .int .i64 a2, .slice A3 l3.length c3, .int .i64 a4, .int .i64 a5] w fun e w' => e = .returned (.bool true) ∧ Below w.heap.size w w' := by
  obtain ⟨k, h⟩ := P a0 l1 a2 l3 a4 a5 w0 w1 w2 w3 w4 w5
  refine (damperlaw2_SpecSame.calls k a0 A1 c1 l1 a2 A3 c3 l3 a4 a5 true w ⟨hLd_⟩ hr1 hc1 hr3 hc3 ⟨rfl⟩ h).mono ?_
  rintro e w' ⟨rfl, hd⟩
  exact ⟨rfl, hd⟩

end Go.Proofs.YthdpnbfjpbiieaaDoor.Ma
