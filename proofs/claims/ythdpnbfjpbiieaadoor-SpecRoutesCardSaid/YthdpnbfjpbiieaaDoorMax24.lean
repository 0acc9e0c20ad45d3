-- Written by a program of this session (wip/tools/myprint.py), in the form of the kit's print. Not trusted: Lean checks it.
import Derived.Test.YthdpnbfjpbiieaaDoorMax0
import Derived.Test.YthdpnbfjpbiieaaDoorMax13
import Derived.Test.YthdpnbfjpbiieaaDoorMax14
import Derived.Test.YthdpnbfjpbiieaaDoorMax17
import Derived.Test.YthdpnbfjpbiieaaDoorMax19
import Derived.Test.YthdpnbfjpbiieaaDoorMax20
import Derived.Test.YthdpnbfjpbiieaaDoorMax23
namespace Go.Proofs.YthdpnbfjpbiieaaDoor.Ma
open Go.RowKit Go.Proofs.YthdpnbfjpbiieaaDoorW.PrintWords Go.Proofs.YthdpnbfjpbiieaaDoorW.PrintLast Go.Proofs.YthdpnbfjpbiieaaDoorW.PrintMore
attribute [local go_sem] max2_int min2_int max_two min_two max_three min_three max_four min_four   -- for this text's walks alone
set_option linter.unusedVariables false
set_option linter.unusedSimpArgs false

/-! ### damperlaw2_SpecRoutes: function 4 -/
mutual
def damperlaw2_SpecRoutes.j0 : Nat → Int → Int → Int → List Int → Bool → ByteArray → ByteArray → List (S41) → Int → Option (Bool)
  | 0, _, _, _, _, _, _, _, _, _ => none
  | k + 1, x4, x5, x6, x7, x37, x266000, x266001, x266002, x266003 => if x37 = true then (some false) else (if (x266002.length : Int) = 0 then (none) else (if (wi x4 9) = 0 then ((damperlaw1_Text.f k x7).bind fun t269 => (damperlaw2_SpecRoutes.j1 k t269 x266001 x266002 x266003)) else (if (wi x4 9) = 1 then ((damperlaw1_Text.f k x7).bind fun t270 => (damperlaw2_SpecRoutes.j1 k x266000 t270 x266002 x266003)) else (if (wi x4 9) = 2 then ((some (([(-1), 60, 61, x6] : List Int) : List Int)).bind fun y271 => (if 0 ≤ (wi x6 4) then (if (wi x6 4) < (y271.length : Int) then (damperlaw2_SpecRoutes.j1 k x266000 x266001 x266002 (rd y271 (wi x6 4))) else (none)) else (none))) else (if (wi x4 9) = 3 then ((some (([] : List (S41)) : List (S41))).bind fun y275 => (if y275.length + x266002.length < 3518437208883 then ((some (y275 ++ x266002 : List (S41))).bind fun y278 => (if 0 ≤ (wi x6 7) then (if y278.length + (wi x6 7 : Int).toNat < 3518437208883 then (damperlaw2_SpecRoutes.j1 k x266000 x266001 (y278 ++ List.replicate (wi x6 7 : Int).toNat z41) x266003) else (none)) else (none))) else (none))) else (if (wi x4 9) = 4 then ((damperlaw1_Text.f k x7).bind fun t284 => (if 4 + t284.size ≤ 9223372036854775807 then (if 0 ≤ (wi x5 (x266002.length : Int)) then (if (wi x5 (x266002.length : Int)) < (x266002.length : Int) then (damperlaw2_SpecRoutes.j1 k x266000 x266001 (x266002.set ((wi x5 (x266002.length : Int)) : Int).toNat (⟨(⟨#[119, 101, 98, 45]⟩ : ByteArray) ++ t284, (rd_T41 x266002 (wi x5 (x266002.length : Int))).f1, (rd_T41 x266002 (wi x5 (x266002.length : Int))).f2⟩ : S41)) x266003) else (none)) else (none)) else (none))) else (if (wi x4 9) = 5 then ((damperlaw1_Text.f k x7).bind fun t286 => (if 0 ≤ (wi x5 (x266002.length : Int)) then (if (wi x5 (x266002.length : Int)) < (x266002.length : Int) then (damperlaw2_SpecRoutes.j1 k x266000 x266001 (x266002.set ((wi x5 (x266002.length : Int)) : Int).toNat (⟨(rd_T41 x266002 (wi x5 (x266002.length : Int))).f0, t286, (rd_T41 x266002 (wi x5 (x266002.length : Int))).f2⟩ : S41)) x266003) else (none)) else (none))) else (if (wi x4 9) = 6 then (if 0 ≤ (wi x5 (x266002.length : Int)) then (if (wi x5 (x266002.length : Int)) < (x266002.length : Int) then ((some (([(-1), 101, wrap64 (((rd_T41 x266002 (wi x5 (x266002.length : Int))).f2) + 1), x6] : List Int) : List Int)).bind fun y289 => (if 0 ≤ (wi x6 4) then (if (wi x6 4) < (y289.length : Int) then (damperlaw2_SpecRoutes.j1 k x266000 x266001 (x266002.set ((wi x5 (x266002.length : Int)) : Int).toNat (⟨(rd_T41 x266002 (wi x5 (x266002.length : Int))).f0, (rd_T41 x266002 (wi x5 (x266002.length : Int))).f1, rd y289 (wi x6 4)⟩ : S41)) x266003) else (none)) else (none))) else (none)) else (none)) else (if (wi x4 9) = 7 then (if 0 < (x266002.length : Int) then (if 0 ≤ (wi x5 (x266002.length : Int)) then (if (wi x5 (x266002.length : Int)) < (x266002.length : Int) then (damperlaw2_SpecRoutes.j1 k x266000 x266001 (x266002.set ((wi x5 (x266002.length : Int)) : Int).toNat (⟨(rd_T41 x266002 (wi x5 (x266002.length : Int))).f0, (rd_T41 x266002 0).f1, (rd_T41 x266002 (wi x5 (x266002.length : Int))).f2⟩ : S41)) x266003) else (none)) else (none)) else (none)) else (if (wi x4 9) = 8 then (if 0 ≤ (wi x6 (x266002.length : Int)) then (if (wi x6 (x266002.length : Int)) ≤ (x266002.length : Int) then (damperlaw2_SpecRoutes.j1 k x266000 x266001 (x266002.take ((wi x6 (x266002.length : Int)) : Int).toNat) x266003) else (none)) else (none)) else (damperlaw2_SpecRoutes.j1 k x266000 x266001 x266002 x266003)))))))))))
def damperlaw2_SpecRoutes.j1 : Nat → ByteArray → ByteArray → List (S41) → Int → Option (Bool)
  | 0, _, _, _, _ => none
  | k + 1, x266000, x266001, x266002, x266003 => (spec_Route.f k x266000 x266001 x266002 x266003).bind fun t299 => ((damperref2_Route.f k x266000 x266001 x266002 x266003).bind fun t300 => (some (t299 == t300)))
end
def damperlaw2_SpecRoutes.f (k : Nat) (a0_0 : ByteArray) (a0_1 : ByteArray) (l0_2 : List (S41)) (a0_3 : Int) (a1 : Int) (l2 : List Int) (a3 : Int) (a4 : Int) (a5 : Int) (a6 : Int) (l7 : List Int) : Option (Bool) := (damperlaw2_known.f k).bind fun t257 => (if t257 = true then ((damperlaw2_Few.f a0_0 a0_1 l0_2 a0_3).bind fun t258 => (if t258 = true then ((damperlaw2_Route.f k a1 l2 a3).bind fun bt259 => ((spec_Route.f k a0_0 a0_1 l0_2 a0_3).bind fun t266 => ((damperref2_Route.f k a0_0 a0_1 l0_2 a0_3).bind fun t267 => (if t266 = t267 then ((spec_Route.f k bt259.1 bt259.2.1 bt259.2.2.1 bt259.2.2.2).bind fun t268 => (damperlaw2_SpecRoutes.j0 k a4 a5 a6 l7 (t268 != 0) bt259.1 bt259.2.1 bt259.2.2.1 bt259.2.2.2)) else (damperlaw2_SpecRoutes.j0 k a4 a5 a6 l7 true bt259.1 bt259.2.1 bt259.2.2.1 bt259.2.2.2))))) else (some true))) else (some false))
theorem damperlaw2_SpecRoutes.mono_l : ∀ k, (∀ y0 y1 y2 y3 y4 y5 y6 y7 y8, LeO (damperlaw2_SpecRoutes.j0 k y0 y1 y2 y3 y4 y5 y6 y7 y8) (damperlaw2_SpecRoutes.j0 (k + 1) y0 y1 y2 y3 y4 y5 y6 y7 y8)) ∧ (∀ y0 y1 y2 y3, LeO (damperlaw2_SpecRoutes.j1 k y0 y1 y2 y3) (damperlaw2_SpecRoutes.j1 (k + 1) y0 y1 y2 y3))
  | 0 => ⟨fun _ _ _ _ _ _ _ _ _ r h => by simp [damperlaw2_SpecRoutes.j0] at h, fun _ _ _ _ r h => by simp [damperlaw2_SpecRoutes.j1] at h⟩
  | k + 1 => by
    obtain ⟨ih0, ih1⟩ := damperlaw2_SpecRoutes.mono_l k
    refine ⟨?_, ?_⟩
    · intro y0 y1 y2 y3 y4 y5 y6 y7 y8
      unfold damperlaw2_SpecRoutes.j0
      repeat' first
      | (with_reducible exact ih0 _ _ _ _ _ _ _ _ _)
      | (with_reducible exact ih1 _ _ _ _)
      | (with_reducible exact damperlaw1_Text.mono _ _)
      | (with_reducible exact damperlaw2_Route.mono _ _ _ _)
      | (with_reducible exact damperlaw2_known.mono _)
      | (with_reducible exact damperref2_Route.mono _ _ _ _ _)
      | (with_reducible exact spec_Route.mono _ _ _ _ _)
      | (with_reducible exact LeO.refl _)
      | (with_reducible exact LeO.none _)
      | (with_reducible refine LeO.ite ?_ ?_)
      | (with_reducible refine LeO.bind ?_ (fun _ => ?_))
      | exact ih0 _ _ _ _ _ _ _ _ _
      | exact ih1 _ _ _ _
      | exact damperlaw1_Text.mono _ _
      | exact damperlaw2_Route.mono _ _ _ _
      | exact damperlaw2_known.mono _
      | exact damperref2_Route.mono _ _ _ _ _
      | exact spec_Route.mono _ _ _ _ _
      | exact LeO.none _
      | refine LeO.ite ?_ ?_
      | refine LeO.bind ?_ (fun _ => ?_)
    · intro y0 y1 y2 y3
      unfold damperlaw2_SpecRoutes.j1
      repeat' first
      | (with_reducible exact ih0 _ _ _ _ _ _ _ _ _)
      | (with_reducible exact ih1 _ _ _ _)
      | (with_reducible exact damperlaw1_Text.mono _ _)
      | (with_reducible exact damperlaw2_Route.mono _ _ _ _)
      | (with_reducible exact damperlaw2_known.mono _)
      | (with_reducible exact damperref2_Route.mono _ _ _ _ _)
      | (with_reducible exact spec_Route.mono _ _ _ _ _)
      | (with_reducible exact LeO.refl _)
      | (with_reducible exact LeO.none _)
      | (with_reducible refine LeO.ite ?_ ?_)
      | (with_reducible refine LeO.bind ?_ (fun _ => ?_))
      | exact ih0 _ _ _ _ _ _ _ _ _
      | exact ih1 _ _ _ _
      | exact damperlaw1_Text.mono _ _
      | exact damperlaw2_Route.mono _ _ _ _
      | exact damperlaw2_known.mono _
      | exact damperref2_Route.mono _ _ _ _ _
      | exact spec_Route.mono _ _ _ _ _
      | exact LeO.none _
      | refine LeO.ite ?_ ?_
      | refine LeO.bind ?_ (fun _ => ?_)
theorem damperlaw2_SpecRoutes.mono : ∀ a0 a1 a2 a3 a4 a5 a6 a7 a8 a9 a10 k, LeO (damperlaw2_SpecRoutes.f k a0 a1 a2 a3 a4 a5 a6 a7 a8 a9 a10) (damperlaw2_SpecRoutes.f (k + 1) a0 a1 a2 a3 a4 a5 a6 a7 a8 a9 a10) := by
  intro a0 a1 a2 a3 a4 a5 a6 a7 a8 a9 a10 k
  obtain ⟨ih0, ih1⟩ := damperlaw2_SpecRoutes.mono_l k
  unfold damperlaw2_SpecRoutes.f
  repeat' first
      | (with_reducible exact ih0 _ _ _ _ _ _ _ _ _)
      | (with_reducible exact ih1 _ _ _ _)
      | (with_reducible exact damperlaw1_Text.mono _ _)
      | (with_reducible exact damperlaw2_Route.mono _ _ _ _)
      | (with_reducible exact damperlaw2_known.mono _)
      | (with_reducible exact damperref2_Route.mono _ _ _ _ _)
      | (with_reducible exact spec_Route.mono _ _ _ _ _)
      | (with_reducible exact LeO.refl _)
      | (with_reducible exact LeO.none _)
      | (with_reducible refine LeO.ite ?_ ?_)
      | (with_reducible refine LeO.bind ?_ (fun _ => ?_))
      | exact ih0 _ _ _ _ _ _ _ _ _
      | exact ih1 _ _ _ _
      | exact damperlaw1_Text.mono _ _
      | exact damperlaw2_Route.mono _ _ _ _
      | exact damperlaw2_known.mono _
      | exact damperref2_Route.mono _ _ _ _ _
      | exact spec_Route.mono _ _ _ _ _
      | exact LeO.none _
      | refine LeO.ite ?_ ?_
      | refine LeO.bind ?_ (fun _ => ?_)
def damperlaw2_SpecRoutes.T6 : Bool × List (List Nat × List Nat) := (true, [([], []), ([0], [0]), ([], []), ([2, 1], [2]), ([1, 3], [1, 3]), ([4, 3], [4]), ([5], [5]), ([6, 5, 5], [5, 6]), ([7, 5], [5, 7]), ([5, 8], [5, 8])])
def damperlaw2_SpecRoutes.B6 : List Nat := [0, 1, 0, 7, 15, 31, 63, 127, 255, 511]
theorem damperlaw2_SpecRoutes.tab6 : rtab .any (opsOf Tryd.f4 6) = damperlaw2_SpecRoutes.T6 := by kernel_rfl
theorem damperlaw2_SpecRoutes.bits6 : waitsOk damperlaw2_SpecRoutes.T6.2 damperlaw2_SpecRoutes.B6 = true := by kernel_rfl
def damperlaw2_SpecRoutes.T19 : Bool × List (List Nat × List Nat) := (true, [([], []), ([0], [0]), ([], []), ([], []), ([3], [3]), ([4], [4]), ([1, 2, 0, 1, 2, 3, 4, 5], [1, 2]), ([6, 0, 1, 2, 3, 4, 5], [6]), ([7, 5, 4, 0, 1, 2, 3, 4, 5], [5, 7])])
def damperlaw2_SpecRoutes.B19 : List Nat := [0, 1, 0, 0, 8, 24, 63, 127, 255]
theorem damperlaw2_SpecRoutes.tab19 : rtab .any (opsOf Tryd.f4 19) = damperlaw2_SpecRoutes.T19 := by kernel_rfl
theorem damperlaw2_SpecRoutes.bits19 : waitsOk damperlaw2_SpecRoutes.T19.2 damperlaw2_SpecRoutes.B19 = true := by kernel_rfl
def damperlaw2_SpecRoutes.T21 : Bool × List (List Nat × List Nat) := (true, [([], []), ([0], [0]), ([], []), ([], []), ([3], [3]), ([1, 2, 0, 1, 2, 3, 4], [1, 2]), ([5, 0, 1, 2, 3, 4], [5]), ([6, 4, 4, 0, 1, 2, 3, 4], [4, 6])])
def damperlaw2_SpecRoutes.B21 : List Nat := [0, 1, 0, 0, 8, 31, 63, 127]
theorem damperlaw2_SpecRoutes.tab21 : rtab .any (opsOf Tryd.f4 21) = damperlaw2_SpecRoutes.T21 := by kernel_rfl
theorem damperlaw2_SpecRoutes.bits21 : waitsOk damperlaw2_SpecRoutes.T21.2 damperlaw2_SpecRoutes.B21 = true := by kernel_rfl
def damperlaw2_SpecRoutes.T23 : Bool × List (List Nat × List Nat) := (true, [([], []), ([0], [0]), ([], []), ([], []), ([3], [3]), ([], []), ([4, 5], [4, 5]), ([6], [6]), ([7], [7]), ([8], [8]), ([], []), ([9, 10], [9, 10]), ([], []), ([12], [12]), ([11, 13], [11, 13]), ([14], [14]), ([1, 2, 0, 1, 2, 3, 4, 5, 6, 7, 8, 9, 10, 11, 12, 13, 14, 15], [1, 2]), ([16, 0, 1, 2, 3, 4, 5, 6, 7, 8, 9, 10, 11, 12, 13, 14, 15], [16]), ([17, 15, 13, 0, 1, 2, 3, 4, 5, 6, 7, 8, 9, 10, 11, 12, 13, 14, 15], [15, 17])])
def damperlaw2_SpecRoutes.B23 : List Nat := [0, 1, 0, 0, 8, 0, 56, 120, 248, 504, 0, 2040, 0, 4096, 16376, 32760, 65535, 131071, 262143]
theorem damperlaw2_SpecRoutes.tab23 : rtab .any (opsOf Tryd.f4 23) = damperlaw2_SpecRoutes.T23 := by kernel_rfl
theorem damperlaw2_SpecRoutes.bits23 : waitsOk damperlaw2_SpecRoutes.T23.2 damperlaw2_SpecRoutes.B23 = true := by kernel_rfl
def damperlaw2_SpecRoutes.T25 : Bool × List (List Nat × List Nat) := (true, [([], []), ([0], [0]), ([], []), ([], []), ([3], [3]), ([4], [4]), ([5], [5]), ([6], [6]), ([1, 2, 0, 1, 2, 3, 4, 5, 6, 7], [1, 2]), ([8, 0, 1, 2, 3, 4, 5, 6, 7], [8]), ([9, 7, 0, 1, 2, 3, 4, 5, 6, 7], [7, 9])])
def damperlaw2_SpecRoutes.B25 : List Nat := [0, 1, 0, 0, 8, 24, 56, 120, 255, 511, 1023]
theorem damperlaw2_SpecRoutes.tab25 : rtab .any (opsOf Tryd.f4 25) = damperlaw2_SpecRoutes.T25 := by kernel_rfl
theorem damperlaw2_SpecRoutes.bits25 : waitsOk damperlaw2_SpecRoutes.T25.2 damperlaw2_SpecRoutes.B25 = true := by kernel_rfl
def damperlaw2_SpecRoutes.T27 : Bool × List (List Nat × List Nat) := (true, [([], []), ([0], [0]), ([], []), ([], []), ([3], [3]), ([4], [4]), ([2, 5], [2, 5]), ([1, 6], [1, 6]), ([0, 1, 2, 3, 4, 5, 6, 7], []), ([8, 7, 6, 0, 1, 2, 3, 4, 5, 6, 7], [7, 8])])
def damperlaw2_SpecRoutes.B27 : List Nat := [0, 1, 0, 0, 8, 24, 60, 127, 255, 511]
theorem damperlaw2_SpecRoutes.tab27 : rtab .any (opsOf Tryd.f4 27) = damperlaw2_SpecRoutes.T27 := by kernel_rfl
theorem damperlaw2_SpecRoutes.bits27 : waitsOk damperlaw2_SpecRoutes.T27.2 damperlaw2_SpecRoutes.B27 = true := by kernel_rfl
set_option maxHeartbeats 8000000 in
set_option maxRecDepth 100000 in
theorem damperlaw2_SpecRoutes.calls (k : Nat) (a0_0 : ByteArray) (a0_1 : ByteArray) (A0_2 : Option Addr) (c0_2 : Nat) (l0_2 : List (S41)) (a0_3 : Int) (a1 : Int) (A2 : Option Addr) (c2 : Nat) (l2 : List Int) (a3 : Int) (a4 : Int) (a5 : Int) (a6 : Int) (A7 : Option Addr) (c7 : Nat) (l7 : List Int) (r : Bool) (w : World) (hLd_ : Aside0 (LaidW w)) (hr0_2 : Kd.C k41 w A0_2 l0_2.length l0_2) (hc0_2 : l0_2.length ≤ c0_2) (hr2 : Kd.C (Kd.int .i64) w A2 l2.length l2) (hc2 : l2.length ≤ c2) (hr7 : Kd.C (Kd.int .i64) w A7 l7.length l7) (hc7 : l7.length ≤ c7) (hr0_ : Aside0 (r = true)) (h : damperlaw2_SpecRoutes.f k a0_0 a0_1 l0_2 a0_3 a1 l2 a3 a4 a5 a6 l7 = some r) :
    Calls Tryd.prog 4 #[.agg #[.string a0_0, .string a0_1, .slice A0_2 l0_2.length c0_2, .int .i64 a0_3], .int .i64 a1, .slice A2 l2.length c2, .int .i64 a3, .int .i64 a4, .int .i64 a5, .int .i64 a6, .slice A7 l7.length c7] w fun e w' => e = .returned (.bool r) ∧ Below w.heap.size w w' := by
  have hu35 := Tryd.underlying35
  have HR0_2 := Aside0.mk hr0_2
  have HC0_2 := Aside0.mk hc0_2
  clear hr0_2 hc0_2
  have HR2 := Aside0.mk hr2
  have HC2 := Aside0.mk hc2
  clear hr2 hc2
  have HR7 := Aside0.mk hr7
  have HC7 := Aside0.mk hc7
  clear hr7 hc7
  have HB := Aside0.mk (Below.refl w.heap.size w)
  have H : ((damperlaw2_known.f k).bind fun t257 => (if t257 = true then ((damperlaw2_Few.f a0_0 a0_1 l0_2 a0_3).bind fun t258 => (if t258 = true then ((damperlaw2_Route.f k a1 l2 a3).bind fun bt259 => ((spec_Route.f k a0_0 a0_1 l0_2 a0_3).bind fun t266 => ((damperref2_Route.f k a0_0 a0_1 l0_2 a0_3).bind fun t267 => (if t266 = t267 then ((spec_Route.f k bt259.1 bt259.2.1 bt259.2.2.1 bt259.2.2.2).bind fun t268 => (damperlaw2_SpecRoutes.j0 k a4 a5 a6 l7 (t268 != 0) bt259.1 bt259.2.1 bt259.2.2.1 bt259.2.2.2)) else (damperlaw2_SpecRoutes.j0 k a4 a5 a6 l7 true bt259.1 bt259.2.1 bt259.2.2.1 bt259.2.2.2))))) else (some true))) else (some false))) = some r := h
  clear h
  replace H := Option.bind_eq_some_iff.mp H
  obtain ⟨t257, A90, H⟩ := H
  replace H : (if t257 = true then ((damperlaw2_Few.f a0_0 a0_1 l0_2 a0_3).bind fun t258 => (if t258 = true then ((damperlaw2_Route.f k a1 l2 a3).bind fun bt259 => ((spec_Route.f k a0_0 a0_1 l0_2 a0_3).bind fun t266 => ((damperref2_Route.f k a0_0 a0_1 l0_2 a0_3).bind fun t267 => (if t266 = t267 then ((spec_Route.f k bt259.1 bt259.2.1 bt259.2.2.1 bt259.2.2.2).bind fun t268 => (damperlaw2_SpecRoutes.j0 k a4 a5 a6 l7 (t268 != 0) bt259.1 bt259.2.1 bt259.2.2.1 bt259.2.2.2)) else (damperlaw2_SpecRoutes.j0 k a4 a5 a6 l7 true bt259.1 bt259.2.1 bt259.2.2.1 bt259.2.2.2))))) else (some true))) else (some false)) = some r := H
  have A9 := Aside0.mk A90
  clear A90
  by_cases c10 : t257 = true
  · subst c10
    have H1 : ((damperlaw2_Few.f a0_0 a0_1 l0_2 a0_3).bind fun t258 => (if t258 = true then ((damperlaw2_Route.f k a1 l2 a3).bind fun bt259 => ((spec_Route.f k a0_0 a0_1 l0_2 a0_3).bind fun t266 => ((damperref2_Route.f k a0_0 a0_1 l0_2 a0_3).bind fun t267 => (if t266 = t267 then ((spec_Route.f k bt259.1 bt259.2.1 bt259.2.2.1 bt259.2.2.2).bind fun t268 => (damperlaw2_SpecRoutes.j0 k a4 a5 a6 l7 (t268 != 0) bt259.1 bt259.2.1 bt259.2.2.1 bt259.2.2.2)) else (damperlaw2_SpecRoutes.j0 k a4 a5 a6 l7 true bt259.1 bt259.2.1 bt259.2.2.1 bt259.2.2.2))))) else (some true))) = some r := by rw [if_pos rfl] at H; exact H
    clear H
    have H := H1
    clear H1
    replace H := Option.bind_eq_some_iff.mp H
    obtain ⟨t258, A110, H⟩ := H
    replace H : (if t258 = true then ((damperlaw2_Route.f k a1 l2 a3).bind fun bt259 => ((spec_Route.f k a0_0 a0_1 l0_2 a0_3).bind fun t266 => ((damperref2_Route.f k a0_0 a0_1 l0_2 a0_3).bind fun t267 => (if t266 = t267 then ((spec_Route.f k bt259.1 bt259.2.1 bt259.2.2.1 bt259.2.2.2).bind fun t268 => (damperlaw2_SpecRoutes.j0 k a4 a5 a6 l7 (t268 != 0) bt259.1 bt259.2.1 bt259.2.2.1 bt259.2.2.2)) else (damperlaw2_SpecRoutes.j0 k a4 a5 a6 l7 true bt259.1 bt259.2.1 bt259.2.2.1 bt259.2.2.2))))) else (some true)) = some r := H
    have A11 := Aside0.mk A110
    clear A110
    by_cases c12 : t258 = true
    · subst c12
      have H1 : ((damperlaw2_Route.f k a1 l2 a3).bind fun bt259 => ((spec_Route.f k a0_0 a0_1 l0_2 a0_3).bind fun t266 => ((damperref2_Route.f k a0_0 a0_1 l0_2 a0_3).bind fun t267 => (if t266 = t267 then ((spec_Route.f k bt259.1 bt259.2.1 bt259.2.2.1 bt259.2.2.2).bind fun t268 => (damperlaw2_SpecRoutes.j0 k a4 a5 a6 l7 (t268 != 0) bt259.1 bt259.2.1 bt259.2.2.1 bt259.2.2.2)) else (damperlaw2_SpecRoutes.j0 k a4 a5 a6 l7 true bt259.1 bt259.2.1 bt259.2.2.1 bt259.2.2.2))))) = some r := by rw [if_pos rfl] at H; exact H
      clear H
      have H := H1
      clear H1
      replace H := Option.bind_eq_some_iff.mp H
      obtain ⟨⟨t259, t260, t261, t264⟩, A130, H⟩ := H
      replace H : ((spec_Route.f k a0_0 a0_1 l0_2 a0_3).bind fun t266 => ((damperref2_Route.f k a0_0 a0_1 l0_2 a0_3).bind fun t267 => (if t266 = t267 then ((spec_Route.f k t259 t260 t261 t264).bind fun t268 => (damperlaw2_SpecRoutes.j0 k a4 a5 a6 l7 (t268 != 0) t259 t260 t261 t264)) else (damperlaw2_SpecRoutes.j0 k a4 a5 a6 l7 true t259 t260 t261 t264)))) = some r := H
      have A13 := Aside0.mk A130
      clear A130
      have HC14 := Aside0.mk H
      clear H
      go_enter Tryd.func4, Tryd.ntmps4
      go_upto_region 6 with (first | (go_at_call 15; refine (damperlaw2_within.keep _ _ rfl (by first | decide | assumption | exact wi_ne (by assumption) | exact wi_ne' (by assumption) | omega) _).mono ?_; rintro e w' ⟨rfl, rfl⟩) | ((with_reducible refine gate_dst (N := 8) rfl ?_); refine box_event ?hg (N := 8) ?hd (cs := #[.string a0_0, .string a0_1, .slice A0_2 l0_2.length c0_2, .int .i64 a0_3]) (t := 35) ?hr ?_; (case hd => rfl); (case hg => rfl); (case hr => first | (go_simp; done) | (go_simp; rfl)); intro gb256 hg w15 hbox hb; have n0_ := Aside0.mk (below_step (by repeat (first | (with_reducible first | exact HB.out | apply below_alloc | apply pw_below_drewN | apply below_drew1) | exact HB.out)) hb); have n1_ := Aside0.mk (hbox); have n2_ := Aside0.mk ((by rw [hg]; exact (below_size (by repeat (first | (with_reducible first | exact HB.out | apply below_alloc | apply pw_below_drewN | apply below_drew1) | exact HB.out))) : w.heap.size ≤ gb256)); have n3_ := Aside0.mk ((by rw [hg]; exact (below_size (by repeat (first | (with_reducible first | exact HB.out | apply below_alloc | apply pw_below_drewN | apply below_drew1) | exact HB.out))) : w.heap.size ≤ gb256)); clear HB; have HB := n0_; have BK256 := n1_; have GW256 := n2_; have GE256 := n3_; clear n0_ n1_ n2_ n3_; clear hb hbox hg) | ((with_reducible refine gate_callee (f := 11) rfl ?_); refine goesL_ (some 19) rfl rfl Tryd.func11 (by kernel_rfl) rfl #[] rfl (by (try simp only [List.map_toArray, List.map_cons, List.map_nil]); first | done | rfl | (simp only [List.length_drop, List.length_take]; rfl)) ?_; (with_reducible refine (damperlaw2_known.calls k  true _ ?side1 A9.out).mono ?_); (case side1 => first | exact hLd_.out | exact hLd_ | exact ⟨LaidW.below hLd_.out (by repeat (first | (with_reducible first | exact HB.out | apply below_alloc | apply pw_below_drewN | apply below_drew1 | refine below_set ?_ GE256.out) | exact HB.out))⟩ | exact ⟨LaidW.below hLd_.out (by repeat (first | exact Below.refl _ _ | apply below_alloc | apply pw_below_drewN | apply below_drew1))⟩); rintro e w16 ⟨rfl, hb⟩; refine ⟨_, rfl, ?_⟩; have n0_ := Aside0.mk (blk_below (g := gb256) (pk BK256) hb); have n1_ := Aside0.mk (below_step (by repeat (first | (with_reducible first | exact HB.out | apply below_alloc | apply pw_below_drewN | apply below_drew1 | refine below_set ?_ GE256.out) | exact HB.out)) hb); clear BK256; clear HB; have BK256 := n0_; have HB := n1_; clear n0_ n1_; (try clear hb); (try clear hb2); (try clear hk); (try clear hi); have hcz17_0 : w16.cell? ⟨gb256, 0, none⟩ = some (.string a0_0) := bc BK256 0; have hcz17_1 : w16.cell? ⟨gb256, 1, none⟩ = some (.string a0_1) := bc BK256 1; have hcz17_2 : w16.cell? ⟨gb256, 2, none⟩ = some (.slice A0_2 l0_2.length c0_2) := bc BK256 2; have hcz17_3 : w16.cell? ⟨gb256, 3, none⟩ = some (.int .i64 a0_3) := bc BK256 3; have hfz17_0 := blk_frozen BK256.out 0; have hfz17_1 := blk_frozen BK256.out 1; have hfz17_2 := blk_frozen BK256.out 2; have hfz17_3 := blk_frozen BK256.out 3) | ((with_reducible refine gate_callee (f := 17) rfl ?_); refine goesL_ (some 22) rfl rfl Tryd.func17 (by kernel_rfl) rfl #[.agg #[.string a0_0, .string a0_1, .slice A0_2 l0_2.length c0_2, .int .i64 a0_3]] rfl (by (try simp only [List.map_toArray, List.map_cons, List.map_nil]); first | done | rfl | (simp only [List.length_drop, List.length_take]; rfl)) ?_; (with_reducible refine (damperlaw2_Few.calls a0_0 a0_1 _ _ l0_2 a0_3 true _ ?side1 ?side2 A11.out).mono ?_); (case side1 => repeat (first | exact (Kd.C_below HR0_2.out HB.out) | (with_reducible refine Kd.C_alloc ?_ _) | (with_reducible refine Kd.C_drewN ?_ _) | (with_reducible refine Kd.C_drew ?_))); (case side2 => exact HC0_2.out); rintro e w18 ⟨rfl, hb⟩; refine ⟨_, rfl, ?_⟩; have n0_ := Aside0.mk (blk_below (g := gb256) (pk BK256) hb); have n1_ := Aside0.mk (below_step (by repeat (first | (with_reducible first | exact HB.out | apply below_alloc | apply pw_below_drewN | apply below_drew1 | refine below_set ?_ GE256.out) | exact HB.out)) hb); clear BK256; clear HB; have BK256 := n0_; have HB := n1_; clear n0_ n1_; (try clear hb); (try clear hb2); (try clear hk); (try clear hi)) | ((with_reducible refine gate_callee (f := 18) rfl ?_); refine goesL_ (some 27) rfl rfl Tryd.func18 (by kernel_rfl) rfl #[.int .i64 a1, .slice A2 l2.length c2, .int .i64 a3] rfl (by (try simp only [List.map_toArray, List.map_cons, List.map_nil]); first | done | rfl | (simp only [List.length_drop, List.length_take]; rfl)) ?_; (with_reducible refine (damperlaw2_Route.calls k a1 _ _ l2 a3 t259 t260 t261 t264 _ ?side1 ?side2 A13.out).mono ?_); (case side1 => repeat (first | exact (Kd.C_below HR2.out HB.out) | (with_reducible refine Kd.C_alloc ?_ _) | (with_reducible refine Kd.C_drewN ?_ _) | (with_reducible refine Kd.C_drew ?_))); (case side2 => exact HC2.out); rintro e w19 ⟨v262, rfl, ho0, hb⟩; refine ⟨_, rfl, ?_⟩; have n0_ := Aside0.mk (Kd.R_lower ho0 (below_size (by repeat (first | (with_reducible first | exact HB.out | apply below_alloc | apply pw_below_drewN | apply below_drew1 | refine below_set ?_ GE256.out) | exact HB.out)))); have n1_ := Aside0.mk (blk_below (g := gb256) (pk BK256) hb); have n2_ := Aside0.mk (below_step (by repeat (first | (with_reducible first | exact HB.out | apply below_alloc | apply pw_below_drewN | apply below_drew1 | refine below_set ?_ GE256.out) | exact HB.out)) hb); clear BK256; clear HB; have HO263 := n0_; have BK256 := n1_; have HB := n2_; clear n0_ n1_ n2_; (try clear hb); (try clear hb2); (try clear hk); (try clear hi); (try clear ho0)) | ((with_reducible refine gate_dst (N := 17) rfl ?_); refine box_event ?hg (N := 17) ?hd (cs := #[.string (⟨#[]⟩ : ByteArray), .string (⟨#[]⟩ : ByteArray), .slice none 0 0, .int .i64 0]) (t := 35) ?hr ?_; (case hd => rfl); (case hg => rfl); (case hr => first | (go_simp; done) | (go_simp; rfl)); intro gb265 hg w20 hbox hb; have n0_ := Aside0.mk (Kd.R_below (by (with_reducible repeat (first | apply Kd.R_alloc | apply Kd.R_drewN | apply Kd.R_drew)); exact HO263.out) hb); have n1_ := Aside0.mk (blk_below (g := gb256) (pk BK256) hb); have n2_ := Aside0.mk (below_step (by repeat (first | (with_reducible first | exact HB.out | apply below_alloc | apply pw_below_drewN | apply below_drew1 | refine below_set ?_ GE256.out) | exact HB.out)) hb); have n3_ := Aside0.mk (hbox); have n4_ := Aside0.mk ((by rw [hg]; exact (below_size (by repeat (first | (with_reducible first | exact HB.out | apply below_alloc | apply pw_below_drewN | apply below_drew1 | refine below_set ?_ GE256.out) | exact HB.out))) : w.heap.size ≤ gb265)); have n5_ := Aside0.mk ((by rw [hg]; exact (below_size (by repeat (first | (with_reducible first | exact HB.out | apply below_alloc | apply pw_below_drewN | apply below_drew1 | refine below_set ?_ GE256.out) | exact HB.out))) : w.heap.size ≤ gb265)); have n6_ := Aside0.mk ((ne_lt hg (pk BK256) : gb256 ≠ gb265)); have n7_ := Aside0.mk ((ne_gt hg (pk BK256) : gb265 ≠ gb256)); clear HO263; clear BK256; clear HB; have HO263 := n0_; have BK256 := n1_; have HB := n2_; have BK265 := n3_; have GW265 := n4_; have GE265 := n5_; have NB256_265 := n6_; have NB265_256 := n7_; clear n0_ n1_ n2_ n3_ n4_ n5_ n6_ n7_; clear hb hbox hg; have hnb21 := NB265_256.out; have hnc21 := NB256_265.out; have hcz22_0 : w20.cell? ⟨gb265, 0, none⟩ = some (.string (⟨#[]⟩ : ByteArray)) := bc BK265 0; have hcz22_1 : w20.cell? ⟨gb265, 1, none⟩ = some (.string (⟨#[]⟩ : ByteArray)) := bc BK265 1; have hcz22_2 : w20.cell? ⟨gb265, 2, none⟩ = some (.slice none 0 0) := bc BK265 2; have hcz22_3 : w20.cell? ⟨gb265, 3, none⟩ = some (.int .i64 0) := bc BK265 3; have hfz22_0 := blk_frozen BK265.out 0; have hfz22_1 := blk_frozen BK265.out 1; have hfz22_2 := blk_frozen BK265.out 2; have hfz22_3 := blk_frozen BK265.out 3; obtain ⟨Ao23, co23, eo23⟩ := Kd.R_slice HO263.out; subst eo23))
      (try simp only [Act.put, List.setIfInBounds_toArray, List.set_cons_zero, List.set_cons_succ])
      go_cut [37] (fun v37 wc => ∃ (kq : Nat) (x37_13 : Bool), v37 = .bool x37_13 ∧ Aside0 (damperlaw2_SpecRoutes.j0 kq a4 a5 a6 l7 x37_13 t259 t260 t261 t264 = some r) ∧ Aside0 (kq ≤ k) ∧ Aside0 (Kd.R k41 41 wc w.heap.size (fun _ => True) (.slice Ao23 t261.length co23) t261) ∧ Aside0 (wc.heap[gb256]? = some (.cells #[.string a0_0, .string a0_1, (.slice A0_2 l0_2.length c0_2), .int .i64 a0_3] 35 (0, 0))) ∧ Aside0 (wc.heap[gb265]? = some (.cells #[.string t259, .string t260, (.slice Ao23 t261.length co23), .int .i64 t264] 35 (0, 0))) ∧ Aside0 (Below w.heap.size w wc))
      case first =>
        have H := HC14.out
        clear HC14
        replace H := Option.bind_eq_some_iff.mp H
        obtain ⟨t266, A240, H⟩ := H
        replace H : ((damperref2_Route.f k a0_0 a0_1 l0_2 a0_3).bind fun t267 => (if t266 = t267 then ((spec_Route.f k t259 t260 t261 t264).bind fun t268 => (damperlaw2_SpecRoutes.j0 k a4 a5 a6 l7 (t268 != 0) t259 t260 t261 t264)) else (damperlaw2_SpecRoutes.j0 k a4 a5 a6 l7 true t259 t260 t261 t264))) = some r := H
        have A24 := Aside0.mk A240
        clear A240
        replace H := Option.bind_eq_some_iff.mp H
        obtain ⟨t267, A250, H⟩ := H
        replace H : (if t266 = t267 then ((spec_Route.f k t259 t260 t261 t264).bind fun t268 => (damperlaw2_SpecRoutes.j0 k a4 a5 a6 l7 (t268 != 0) t259 t260 t261 t264)) else (damperlaw2_SpecRoutes.j0 k a4 a5 a6 l7 true t259 t260 t261 t264)) = some r := H
        have A25 := Aside0.mk A250
        clear A250
        by_cases c26 : t266 = t267
        · rw [if_pos c26] at H
          have c26b0 : (t266 == t267) = true := beq_iff_eq.mpr c26
          have c26b1 : (t266 != t267) = false := bne_eq_false_iff_eq.mpr c26
          clear c26
          (first | rw [c26b0] | (simp only [i64_w, i32_w]; rw [c26b0]) | rw [c26b1] | skip)
          replace H := Option.bind_eq_some_iff.mp H
          obtain ⟨t268, A270, H⟩ := H
          replace H : (damperlaw2_SpecRoutes.j0 k a4 a5 a6 l7 (t268 != 0) t259 t260 t261 t264) = some r := H
          have A27 := Aside0.mk A270
          clear A270
          have H' := Aside0.mk H
          clear H
          try go_wp2_with (first | (go_at_call 15; refine (damperlaw2_within.keep _ _ rfl (by first | decide | assumption | exact wi_ne (by assumption) | exact wi_ne' (by assumption) | omega) _).mono ?_; rintro e w' ⟨rfl, rfl⟩))
          have n0_ : Aside0 (Kd.R k41 41 ((((w20.setCell ⟨gb265, 0, none⟩ (.string t259)).setCell ⟨gb265, 1, none⟩ (.string t260)).setCell ⟨gb265, 2, none⟩ (.slice Ao23 t261.length co23)).setCell ⟨gb265, 3, none⟩ (.int .i64 t264)) w.heap.size (fun _ => True) (.slice Ao23 t261.length co23) t261) := ⟨by (with_reducible repeat (first | apply Kd.R_alloc | apply Kd.R_drewN | apply Kd.R_drew)); exact Kd.R_mono (Kd.R_far (p := ⟨gb265, 3, none⟩) (Kd.R_far (p := ⟨gb265, 2, none⟩) (Kd.R_far (p := ⟨gb265, 1, none⟩) (Kd.R_far (p := ⟨gb265, 0, none⟩) (Kd.R_types HO263.out BK265.out (by decide)) (fun _ hk => hk.2) (.string t259)) (fun _ hk => hk.2) (.string t260)) (fun _ hk => hk.2) (.slice Ao23 t261.length co23)) (fun _ hk => hk.2) (.int .i64 t264)) (fun _ hk => trivial)⟩
          have n1_ : Aside0 (((((w20.setCell ⟨gb265, 0, none⟩ (.string t259)).setCell ⟨gb265, 1, none⟩ (.string t260)).setCell ⟨gb265, 2, none⟩ (.slice Ao23 t261.length co23)).setCell ⟨gb265, 3, none⟩ (.int .i64 t264)).heap[gb256]? = some (.cells #[.string a0_0, .string a0_1, .slice A0_2 l0_2.length c0_2, .int .i64 a0_3] 35 (0, 0))) := ⟨by (repeat ((with_reducible repeat (first | refine blk_drewN ?_ _ | refine blk_drew ?_ | refine blk_alloc ?_ _)); with_reducible refine blk_far ?_ NB256_265.out _)); (with_reducible repeat (first | refine blk_drewN ?_ _ | refine blk_drew ?_ | refine blk_alloc ?_ _)); exact BK256.out⟩
          have n2_ : Aside0 (((((w20.setCell ⟨gb265, 0, none⟩ (.string t259)).setCell ⟨gb265, 1, none⟩ (.string t260)).setCell ⟨gb265, 2, none⟩ (.slice Ao23 t261.length co23)).setCell ⟨gb265, 3, none⟩ (.int .i64 t264)).heap[gb265]? = some (.cells #[.string t259, .string t260, .slice Ao23 t261.length co23, .int .i64 t264] 35 (0, 0))) := ⟨by (with_reducible repeat (first | refine blk_drewN ?_ _ | refine blk_drew ?_ | refine blk_alloc ?_ _)); refine blk_put (cs := #[.string t259, .string t260, .slice Ao23 t261.length co23, .int .i64 0]) ?_ 3 _ rfl; (with_reducible repeat (first | refine blk_drewN ?_ _ | refine blk_drew ?_ | refine blk_alloc ?_ _)); refine blk_put (cs := #[.string t259, .string t260, .slice none 0 0, .int .i64 0]) ?_ 2 _ rfl; (with_reducible repeat (first | refine blk_drewN ?_ _ | refine blk_drew ?_ | refine blk_alloc ?_ _)); refine blk_put (cs := #[.string t259, .string (⟨#[]⟩ : ByteArray), .slice none 0 0, .int .i64 0]) ?_ 1 _ rfl; (with_reducible repeat (first | refine blk_drewN ?_ _ | refine blk_drew ?_ | refine blk_alloc ?_ _)); refine blk_put (cs := #[.string (⟨#[]⟩ : ByteArray), .string (⟨#[]⟩ : ByteArray), .slice none 0 0, .int .i64 0]) ?_ 0 _ rfl; (with_reducible repeat (first | refine blk_drewN ?_ _ | refine blk_drew ?_ | refine blk_alloc ?_ _)); exact BK265.out⟩
          have n3_ : Aside0 (Below w.heap.size w ((((w20.setCell ⟨gb265, 0, none⟩ (.string t259)).setCell ⟨gb265, 1, none⟩ (.string t260)).setCell ⟨gb265, 2, none⟩ (.slice Ao23 t261.length co23)).setCell ⟨gb265, 3, none⟩ (.int .i64 t264))) := ⟨by repeat (first | (with_reducible first | exact HB.out | apply below_alloc | apply pw_below_drewN | apply below_drew1 | refine below_set ?_ GE256.out | refine below_set ?_ GE265.out) | exact HB.out)⟩
          (try clear HO263)
          (try clear BK256)
          (try clear BK265)
          (try clear HB)
          (repeat rw [setCell_drewN_])
          (repeat rw [World.drewN_drewN])
          generalize ((((w20.setCell ⟨gb265, 0, none⟩ (.string t259)).setCell ⟨gb265, 1, none⟩ (.string t260)).setCell ⟨gb265, 2, none⟩ (.slice Ao23 t261.length co23)).setCell ⟨gb265, 3, none⟩ (.int .i64 t264)) = w28 at n0_ n1_ n2_ n3_ ⊢
          have HO263 := n0_
          have BK256 := n1_
          have BK265 := n2_
          have HB := n3_
          clear n0_ n1_ n2_ n3_
          replace HO263 := Aside0.mk (Kd.R_drew HO263.out)
          replace BK256 := Aside0.mk (blk_drew BK256.out)
          replace BK265 := Aside0.mk (blk_drew BK265.out)
          replace HB := Aside0.mk (below_drew1 HB.out)
          refine start_ (n := 10) (S := fun w' => w'.cell? ⟨gb256, 0, none⟩ = some (.string a0_0) ∧ w'.cell? ⟨gb256, 1, none⟩ = some (.string a0_1) ∧ w'.cell? ⟨gb256, 2, none⟩ = some (.slice A0_2 l0_2.length c0_2) ∧ w'.cell? ⟨gb256, 3, none⟩ = some (.int .i64 a0_3) ∧ w'.cell? ⟨gb265, 0, none⟩ = some (.string t259) ∧ w'.cell? ⟨gb265, 1, none⟩ = some (.string t260) ∧ w'.cell? ⟨gb265, 2, none⟩ = some (.slice Ao23 t261.length co23) ∧ w'.cell? ⟨gb265, 3, none⟩ = some (.int .i64 t264)) (ds := []) #[false, false, false, false, false, false, false, false, false, false] (by kernel_rfl) rfl rfl ⟨bc BK256 0, bc BK256 1, bc BK256 2, bc BK256 3, bc BK265 0, bc BK265 1, bc BK265 2, bc BK265 3⟩ (fun hHeld => ?_); refine with_tabW damperlaw2_SpecRoutes.tab6 damperlaw2_SpecRoutes.bits6 (fun HT_ HW_ => ?_)
          generalize w28.drew = w29 at HO263 BK256 BK265 HB hHeld ⊢
          refine take_ (i := 0) (N := some 28) (v := ?_) (a' := ?_) #[true, false, false, false, false, false, false, false, false, false] rfl rfl (take_ofW HT_.out HW_.out (by kernel_rfl)) (fun _ _ _ h => h) (Or.inl ⟨by rfl, ?_⟩) hHeld ?_ ?_
          rotate_left
          · rintro w' ⟨s0, s1, s2, s3, s4, s5, s6, s7⟩
            go_simp
            with_reducible rfl
          rotate_left
          · simp only [Act.put, List.setIfInBounds_toArray, List.set_cons_zero, List.set_cons_succ, i64_w, i32_w]
            rfl
          refine take_ (i := 2) (N := some 30) (v := ?_) (a' := ?_) #[true, false, true, false, false, false, false, false, false, false] rfl rfl (take_ofW HT_.out HW_.out (by kernel_rfl)) (fun _ _ _ h => h) (Or.inl ⟨by rfl, ?_⟩) hHeld ?_ ?_
          rotate_left
          · rintro w' ⟨s0, s1, s2, s3, s4, s5, s6, s7⟩
            go_simp
            with_reducible rfl
          rotate_left
          · simp only [Act.put, List.setIfInBounds_toArray, List.set_cons_zero, List.set_cons_succ, i64_w, i32_w]
            rfl
          refine one_ (i := 1) (N := some 29) #[true, true, true, false, false, false, false, false, false, false] rfl rfl (one_of HT_.out (by kernel_rfl)) (by decide) (fun K hK => ?_)
          refine goes_ Tryd.func19 (by kernel_rfl) rfl #[.agg #[.string a0_0, .string a0_1, .slice A0_2 l0_2.length c0_2, .int .i64 a0_3]] (by rfl) rfl rfl (by (try simp only [List.map_toArray, List.map_cons, List.map_nil]); first | done | rfl | (simp only [List.length_drop, List.length_take]; rfl)) ?_
          with_reducible refine (spec_Route.calls k a0_0 a0_1 _ _ l0_2 a0_3 t266 _ ?side3 ?side1 ?side2 A24.out).mono ?_
          (case side1 => repeat (first | exact (Kd.C_below HR0_2.out HB.out) | (with_reducible refine Kd.C_alloc ?_ _) | (with_reducible refine Kd.C_drewN ?_ _) | (with_reducible refine Kd.C_drew ?_)))
          (case side2 => exact HC0_2.out)
          (case side3 => first | exact hLd_.out | exact hLd_ | exact ⟨LaidW.below hLd_.out (by repeat (first | (with_reducible first | exact HB.out | apply below_alloc | apply pw_below_drewN | apply below_drew1 | refine below_set ?_ GE256.out | refine below_set ?_ GE265.out) | exact HB.out))⟩ | exact ⟨LaidW.below hLd_.out (by repeat (first | exact Below.refl _ _ | apply below_alloc | apply pw_below_drewN | apply below_drew1))⟩)
          rintro e w30 ⟨rfl, hb⟩
          refine ⟨_, rfl, ?_⟩
          replace HO263 := Aside0.mk (Kd.R_below (by (with_reducible repeat (first | apply Kd.R_alloc | apply Kd.R_drewN | apply Kd.R_drew)); exact HO263.out) hb)
          replace BK256 := Aside0.mk (blk_below (g := gb256) (pk BK256) hb)
          replace BK265 := Aside0.mk (blk_below (g := gb265) (pk BK265) hb)
          replace HB := Aside0.mk (below_step (by repeat (first | (with_reducible first | exact HB.out | apply below_alloc | apply pw_below_drewN | apply below_drew1 | refine below_set ?_ GE256.out | refine below_set ?_ GE265.out) | exact HB.out)) hb)
          (try clear hb)
          (try clear hb2)
          (try clear hk)
          (try clear hi)
          refine hK.out _ _ ⟨bc BK256 0, bc BK256 1, bc BK256 2, bc BK256 3, bc BK265 0, bc BK265 1, bc BK265 2, bc BK265 3⟩ (fun hHeld => ?_)
          clear hK K
          refine norm_ (a' := ?_) ?_ ?_
          rotate_left
          · show Act.put _ (some 29) _ = _
            simp only [Act.put, List.setIfInBounds_toArray, List.set_cons_zero, List.set_cons_succ, i64_w, i32_w]
            rfl
          refine one_ (i := 3) (N := some 31) #[true, true, true, true, false, false, false, false, false, false] rfl rfl (one_of HT_.out (by kernel_rfl)) (by decide) (fun K hK => ?_)
          refine goes_ Tryd.func20 (by kernel_rfl) rfl #[.agg #[.string a0_0, .string a0_1, .slice A0_2 l0_2.length c0_2, .int .i64 a0_3]] (by rfl) rfl rfl (by (try simp only [List.map_toArray, List.map_cons, List.map_nil]); first | done | rfl | (simp only [List.length_drop, List.length_take]; rfl)) ?_
          with_reducible refine (damperref2_Route.calls k a0_0 a0_1 _ _ l0_2 a0_3 t267 _ ?side1 ?side2 A25.out).mono ?_
          (case side1 => repeat (first | exact (Kd.C_below HR0_2.out HB.out) | (with_reducible refine Kd.C_alloc ?_ _) | (with_reducible refine Kd.C_drewN ?_ _) | (with_reducible refine Kd.C_drew ?_)))
          (case side2 => exact HC0_2.out)
          rintro e w31 ⟨rfl, hb⟩
          refine ⟨_, rfl, ?_⟩
          replace HO263 := Aside0.mk (Kd.R_below (by (with_reducible repeat (first | apply Kd.R_alloc | apply Kd.R_drewN | apply Kd.R_drew)); exact HO263.out) hb)
          replace BK256 := Aside0.mk (blk_below (g := gb256) (pk BK256) hb)
          replace BK265 := Aside0.mk (blk_below (g := gb265) (pk BK265) hb)
          replace HB := Aside0.mk (below_step (by repeat (first | (with_reducible first | exact HB.out | apply below_alloc | apply pw_below_drewN | apply below_drew1 | refine below_set ?_ GE256.out | refine below_set ?_ GE265.out) | exact HB.out)) hb)
          (try clear hb)
          (try clear hb2)
          (try clear hk)
          (try clear hi)
          refine hK.out _ _ ⟨bc BK256 0, bc BK256 1, bc BK256 2, bc BK256 3, bc BK265 0, bc BK265 1, bc BK265 2, bc BK265 3⟩ (fun hHeld => ?_)
          clear hK K
          refine norm_ (a' := ?_) ?_ ?_
          rotate_left
          · show Act.put _ (some 31) _ = _
            simp only [Act.put, List.setIfInBounds_toArray, List.set_cons_zero, List.set_cons_succ, i64_w, i32_w]
            rfl
          refine pure_ (i := 4) (N := some 32) (v := ?_) (a' := ?_) #[true, true, true, true, true, false, false, false, false, false] rfl rfl (any_of HT_.out (by kernel_rfl)) (fun _ _ _ h => h) (Or.inl ⟨by rfl, ?_⟩) ?_ ?_
          rotate_left
          · intro w'
            go_simp
            with_reducible rfl
          rotate_left
          · simp only [Act.put, List.setIfInBounds_toArray, List.set_cons_zero, List.set_cons_succ, i64_w, i32_w]
            rfl
          refine pure_ (i := 5) (N := some 33) (v := ?_) (a' := ?_) #[true, true, true, true, true, true, false, false, false, false] rfl rfl (any_of HT_.out (by kernel_rfl)) (fun _ _ _ h => h) (Or.inl ⟨by rfl, ?_⟩) ?_ ?_
          rotate_left
          · intro w'
            go_simp
            with_reducible rfl
          rotate_left
          · simp only [Act.put, List.setIfInBounds_toArray, List.set_cons_zero, List.set_cons_succ, i64_w, i32_w]
            rfl
          refine take_ (i := 6) (N := some 34) (v := ?_) (a' := ?_) #[true, true, true, true, true, true, true, false, false, false] rfl rfl (take_ofW HT_.out HW_.out (by kernel_rfl)) (fun _ _ _ h => h) (Or.inl ⟨by rfl, ?_⟩) hHeld ?_ ?_
          rotate_left
          · rintro w' ⟨s0, s1, s2, s3, s4, s5, s6, s7⟩
            go_simp
            with_reducible rfl
          rotate_left
          · simp only [Act.put, List.setIfInBounds_toArray, List.set_cons_zero, List.set_cons_succ, i64_w, i32_w]
            rfl
          refine one_ (i := 7) (N := some 35) #[true, true, true, true, true, true, true, true, false, false] rfl rfl (one_of HT_.out (by kernel_rfl)) (by decide) (fun K hK => ?_)
          refine goes_ Tryd.func19 (by kernel_rfl) rfl #[.agg #[.string t259, .string t260, .slice Ao23 t261.length co23, .int .i64 t264]] (by rfl) rfl rfl (by (try simp only [List.map_toArray, List.map_cons, List.map_nil]); first | done | rfl | (simp only [List.length_drop, List.length_take]; rfl)) ?_
          with_reducible refine (spec_Route.calls k t259 t260 _ _ t261 t264 t268 _ ?side3 ?side1 ?side2 A27.out).mono ?_
          (case side1 => repeat (first | exact (Kd.R_reads' HO263.out).2.2 | (with_reducible refine Kd.C_alloc ?_ _) | (with_reducible refine Kd.C_drewN ?_ _) | (with_reducible refine Kd.C_drew ?_)))
          (case side2 => exact (Kd.R_reads' HO263.out).2.1)
          (case side3 => first | exact hLd_.out | exact hLd_ | exact ⟨LaidW.below hLd_.out (by repeat (first | (with_reducible first | exact HB.out | apply below_alloc | apply pw_below_drewN | apply below_drew1 | refine below_set ?_ GE256.out | refine below_set ?_ GE265.out) | exact HB.out))⟩ | exact ⟨LaidW.below hLd_.out (by repeat (first | exact Below.refl _ _ | apply below_alloc | apply pw_below_drewN | apply below_drew1))⟩)
          rintro e w32 ⟨rfl, hb⟩
          refine ⟨_, rfl, ?_⟩
          replace HO263 := Aside0.mk (Kd.R_below (by (with_reducible repeat (first | apply Kd.R_alloc | apply Kd.R_drewN | apply Kd.R_drew)); exact HO263.out) hb)
          replace BK256 := Aside0.mk (blk_below (g := gb256) (pk BK256) hb)
          replace BK265 := Aside0.mk (blk_below (g := gb265) (pk BK265) hb)
          replace HB := Aside0.mk (below_step (by repeat (first | (with_reducible first | exact HB.out | apply below_alloc | apply pw_below_drewN | apply below_drew1 | refine below_set ?_ GE256.out | refine below_set ?_ GE265.out) | exact HB.out)) hb)
          (try clear hb)
          (try clear hb2)
          (try clear hk)
          (try clear hi)
          refine hK.out _ _ ⟨bc BK256 0, bc BK256 1, bc BK256 2, bc BK256 3, bc BK265 0, bc BK265 1, bc BK265 2, bc BK265 3⟩ (fun hHeld => ?_)
          clear hK K
          refine norm_ (a' := ?_) ?_ ?_
          rotate_left
          · show Act.put _ (some 35) _ = _
            simp only [Act.put, List.setIfInBounds_toArray, List.set_cons_zero, List.set_cons_succ, i64_w, i32_w]
            rfl
          refine pure_ (i := 8) (N := some 36) (v := ?_) (a' := ?_) #[true, true, true, true, true, true, true, true, true, false] rfl rfl (any_of HT_.out (by kernel_rfl)) (fun _ _ _ h => h) (Or.inl ⟨by rfl, ?_⟩) ?_ ?_
          rotate_left
          · intro w'
            go_simp
            with_reducible rfl
          rotate_left
          · simp only [Act.put, List.setIfInBounds_toArray, List.set_cons_zero, List.set_cons_succ, i64_w, i32_w]
            rfl
          refine pure_ (i := 9) (N := some 37) (v := ?_) (a' := ?_) #[true, true, true, true, true, true, true, true, true, true] rfl rfl (any_of HT_.out (by kernel_rfl)) (fun _ _ _ h => h) (Or.inl ⟨by rfl, ?_⟩) ?_ ?_
          rotate_left
          · intro w'
            go_simp
            with_reducible rfl
          rotate_left
          · simp only [Act.put, List.setIfInBounds_toArray, List.set_cons_zero, List.set_cons_succ, i64_w, i32_w]
            rfl
          refine done_ (done_of HT_.out (by kernel_rfl)) ?_
          try go_wp2_with (first | (go_at_call 15; refine (damperlaw2_within.keep _ _ rfl (by first | decide | assumption | exact wi_ne (by assumption) | exact wi_ne' (by assumption) | omega) _).mono ?_; rintro e w' ⟨rfl, rfl⟩))
          go_meet
          case rel => exact ⟨_, ((t268 != 0)), (by first | rfl | (simp; done) | (simp [*]; done)), H', ⟨by first | omega | exact Nat.le_refl _⟩, ⟨by (with_reducible repeat (first | apply Kd.R_alloc | apply Kd.R_drewN | apply Kd.R_drew)); exact HO263.out⟩, ⟨by (with_reducible repeat (first | refine blk_drewN ?_ _ | refine blk_drew ?_ | refine blk_alloc ?_ _)); exact BK256.out⟩, ⟨by (with_reducible repeat (first | refine blk_drewN ?_ _ | refine blk_drew ?_ | refine blk_alloc ?_ _)); exact BK265.out⟩, ⟨by repeat (first | (with_reducible first | exact HB.out | apply below_alloc | apply pw_below_drewN | apply below_drew1 | refine below_set ?_ GE256.out | refine below_set ?_ GE265.out) | exact HB.out)⟩⟩
        · rw [if_neg c26] at H
          have c26b0 : (t266 == t267) = false := beq_eq_false_iff_ne.mpr c26
          have c26b1 : (t266 != t267) = true := bne_iff_ne.mpr c26
          (first | rw [c26b0] | (simp only [i64_w, i32_w]; rw [c26b0]) | rw [c26b1] | skip)
          have H' := Aside0.mk H
          clear H
          try go_wp2_with (first | (go_at_call 15; refine (damperlaw2_within.keep _ _ rfl (by first | decide | assumption | exact wi_ne (by assumption) | exact wi_ne' (by assumption) | omega) _).mono ?_; rintro e w' ⟨rfl, rfl⟩))
          have n0_ : Aside0 (Kd.R k41 41 ((((w20.setCell ⟨gb265, 0, none⟩ (.string t259)).setCell ⟨gb265, 1, none⟩ (.string t260)).setCell ⟨gb265, 2, none⟩ (.slice Ao23 t261.length co23)).setCell ⟨gb265, 3, none⟩ (.int .i64 t264)) w.heap.size (fun _ => True) (.slice Ao23 t261.length co23) t261) := ⟨by (with_reducible repeat (first | apply Kd.R_alloc | apply Kd.R_drewN | apply Kd.R_drew)); exact Kd.R_mono (Kd.R_far (p := ⟨gb265, 3, none⟩) (Kd.R_far (p := ⟨gb265, 2, none⟩) (Kd.R_far (p := ⟨gb265, 1, none⟩) (Kd.R_far (p := ⟨gb265, 0, none⟩) (Kd.R_types HO263.out BK265.out (by decide)) (fun _ hk => hk.2) (.string t259)) (fun _ hk => hk.2) (.string t260)) (fun _ hk => hk.2) (.slice Ao23 t261.length co23)) (fun _ hk => hk.2) (.int .i64 t264)) (fun _ hk => trivial)⟩
          have n1_ : Aside0 (((((w20.setCell ⟨gb265, 0, none⟩ (.string t259)).setCell ⟨gb265, 1, none⟩ (.string t260)).setCell ⟨gb265, 2, none⟩ (.slice Ao23 t261.length co23)).setCell ⟨gb265, 3, none⟩ (.int .i64 t264)).heap[gb256]? = some (.cells #[.string a0_0, .string a0_1, .slice A0_2 l0_2.length c0_2, .int .i64 a0_3] 35 (0, 0))) := ⟨by (repeat ((with_reducible repeat (first | refine blk_drewN ?_ _ | refine blk_drew ?_ | refine blk_alloc ?_ _)); with_reducible refine blk_far ?_ NB256_265.out _)); (with_reducible repeat (first | refine blk_drewN ?_ _ | refine blk_drew ?_ | refine blk_alloc ?_ _)); exact BK256.out⟩
          have n2_ : Aside0 (((((w20.setCell ⟨gb265, 0, none⟩ (.string t259)).setCell ⟨gb265, 1, none⟩ (.string t260)).setCell ⟨gb265, 2, none⟩ (.slice Ao23 t261.length co23)).setCell ⟨gb265, 3, none⟩ (.int .i64 t264)).heap[gb265]? = some (.cells #[.string t259, .string t260, .slice Ao23 t261.length co23, .int .i64 t264] 35 (0, 0))) := ⟨by (with_reducible repeat (first | refine blk_drewN ?_ _ | refine blk_drew ?_ | refine blk_alloc ?_ _)); refine blk_put (cs := #[.string t259, .string t260, .slice Ao23 t261.length co23, .int .i64 0]) ?_ 3 _ rfl; (with_reducible repeat (first | refine blk_drewN ?_ _ | refine blk_drew ?_ | refine blk_alloc ?_ _)); refine blk_put (cs := #[.string t259, .string t260, .slice none 0 0, .int .i64 0]) ?_ 2 _ rfl; (with_reducible repeat (first | refine blk_drewN ?_ _ | refine blk_drew ?_ | refine blk_alloc ?_ _)); refine blk_put (cs := #[.string t259, .string (⟨#[]⟩ : ByteArray), .slice none 0 0, .int .i64 0]) ?_ 1 _ rfl; (with_reducible repeat (first | refine blk_drewN ?_ _ | refine blk_drew ?_ | refine blk_alloc ?_ _)); refine blk_put (cs := #[.string (⟨#[]⟩ : ByteArray), .string (⟨#[]⟩ : ByteArray), .slice none 0 0, .int .i64 0]) ?_ 0 _ rfl; (with_reducible repeat (first | refine blk_drewN ?_ _ | refine blk_drew ?_ | refine blk_alloc ?_ _)); exact BK265.out⟩
          have n3_ : Aside0 (Below w.heap.size w ((((w20.setCell ⟨gb265, 0, none⟩ (.string t259)).setCell ⟨gb265, 1, none⟩ (.string t260)).setCell ⟨gb265, 2, none⟩ (.slice Ao23 t261.length co23)).setCell ⟨gb265, 3, none⟩ (.int .i64 t264))) := ⟨by repeat (first | (with_reducible first | exact HB.out | apply below_alloc | apply pw_below_drewN | apply below_drew1 | refine below_set ?_ GE256.out | refine below_set ?_ GE265.out) | exact HB.out)⟩
          (try clear HO263)
          (try clear BK256)
          (try clear BK265)
          (try clear HB)
          (repeat rw [setCell_drewN_])
          (repeat rw [World.drewN_drewN])
          generalize ((((w20.setCell ⟨gb265, 0, none⟩ (.string t259)).setCell ⟨gb265, 1, none⟩ (.string t260)).setCell ⟨gb265, 2, none⟩ (.slice Ao23 t261.length co23)).setCell ⟨gb265, 3, none⟩ (.int .i64 t264)) = w33 at n0_ n1_ n2_ n3_ ⊢
          have HO263 := n0_
          have BK256 := n1_
          have BK265 := n2_
          have HB := n3_
          clear n0_ n1_ n2_ n3_
          replace HO263 := Aside0.mk (Kd.R_drew HO263.out)
          replace BK256 := Aside0.mk (blk_drew BK256.out)
          replace BK265 := Aside0.mk (blk_drew BK265.out)
          replace HB := Aside0.mk (below_drew1 HB.out)
          refine start_ (n := 10) (S := fun w' => w'.cell? ⟨gb256, 0, none⟩ = some (.string a0_0) ∧ w'.cell? ⟨gb256, 1, none⟩ = some (.string a0_1) ∧ w'.cell? ⟨gb256, 2, none⟩ = some (.slice A0_2 l0_2.length c0_2) ∧ w'.cell? ⟨gb256, 3, none⟩ = some (.int .i64 a0_3)) (ds := []) #[false, false, false, false, false, false, false, false, false, false] (by kernel_rfl) rfl rfl ⟨bc BK256 0, bc BK256 1, bc BK256 2, bc BK256 3⟩ (fun hHeld => ?_); refine with_tabW damperlaw2_SpecRoutes.tab6 damperlaw2_SpecRoutes.bits6 (fun HT_ HW_ => ?_)
          generalize w33.drew = w34 at HO263 BK256 BK265 HB hHeld ⊢
          refine take_ (i := 0) (N := some 28) (v := ?_) (a' := ?_) #[true, false, false, false, false, false, false, false, false, false] rfl rfl (take_ofW HT_.out HW_.out (by kernel_rfl)) (fun _ _ _ h => h) (Or.inl ⟨by rfl, ?_⟩) hHeld ?_ ?_
          rotate_left
          · rintro w' ⟨s0, s1, s2, s3⟩
            go_simp
            with_reducible rfl
          rotate_left
          · simp only [Act.put, List.setIfInBounds_toArray, List.set_cons_zero, List.set_cons_succ, i64_w, i32_w]
            rfl
          refine take_ (i := 2) (N := some 30) (v := ?_) (a' := ?_) #[true, false, true, false, false, false, false, false, false, false] rfl rfl (take_ofW HT_.out HW_.out (by kernel_rfl)) (fun _ _ _ h => h) (Or.inl ⟨by rfl, ?_⟩) hHeld ?_ ?_
          rotate_left
          · rintro w' ⟨s0, s1, s2, s3⟩
            go_simp
            with_reducible rfl
          rotate_left
          · simp only [Act.put, List.setIfInBounds_toArray, List.set_cons_zero, List.set_cons_succ, i64_w, i32_w]
            rfl
          refine one_ (i := 1) (N := some 29) #[true, true, true, false, false, false, false, false, false, false] rfl rfl (one_of HT_.out (by kernel_rfl)) (by decide) (fun K hK => ?_)
          refine goes_ Tryd.func19 (by kernel_rfl) rfl #[.agg #[.string a0_0, .string a0_1, .slice A0_2 l0_2.length c0_2, .int .i64 a0_3]] (by rfl) rfl rfl (by (try simp only [List.map_toArray, List.map_cons, List.map_nil]); first | done | rfl | (simp only [List.length_drop, List.length_take]; rfl)) ?_
          with_reducible refine (spec_Route.calls k a0_0 a0_1 _ _ l0_2 a0_3 t266 _ ?side3 ?side1 ?side2 A24.out).mono ?_
          (case side1 => repeat (first | exact (Kd.C_below HR0_2.out HB.out) | (with_reducible refine Kd.C_alloc ?_ _) | (with_reducible refine Kd.C_drewN ?_ _) | (with_reducible refine Kd.C_drew ?_)))
          (case side2 => exact HC0_2.out)
          (case side3 => first | exact hLd_.out | exact hLd_ | exact ⟨LaidW.below hLd_.out (by repeat (first | (with_reducible first | exact HB.out | apply below_alloc | apply pw_below_drewN | apply below_drew1 | refine below_set ?_ GE256.out | refine below_set ?_ GE265.out) | exact HB.out))⟩ | exact ⟨LaidW.below hLd_.out (by repeat (first | exact Below.refl _ _ | apply below_alloc | apply pw_below_drewN | apply below_drew1))⟩)
          rintro e w35 ⟨rfl, hb⟩
          refine ⟨_, rfl, ?_⟩
          replace HO263 := Aside0.mk (Kd.R_below (by (with_reducible repeat (first | apply Kd.R_alloc | apply Kd.R_drewN | apply Kd.R_drew)); exact HO263.out) hb)
          replace BK256 := Aside0.mk (blk_below (g := gb256) (pk BK256) hb)
          replace BK265 := Aside0.mk (blk_below (g := gb265) (pk BK265) hb)
          replace HB := Aside0.mk (below_step (by repeat (first | (with_reducible first | exact HB.out | apply below_alloc | apply pw_below_drewN | apply below_drew1 | refine below_set ?_ GE256.out | refine below_set ?_ GE265.out) | exact HB.out)) hb)
          (try clear hb)
          (try clear hb2)
          (try clear hk)
          (try clear hi)
          refine hK.out _ _ ⟨bc BK256 0, bc BK256 1, bc BK256 2, bc BK256 3⟩ (fun hHeld => ?_)
          clear hK K
          refine norm_ (a' := ?_) ?_ ?_
          rotate_left
          · show Act.put _ (some 29) _ = _
            simp only [Act.put, List.setIfInBounds_toArray, List.set_cons_zero, List.set_cons_succ, i64_w, i32_w]
            rfl
          refine one_ (i := 3) (N := some 31) #[true, true, true, true, false, false, false, false, false, false] rfl rfl (one_of HT_.out (by kernel_rfl)) (by decide) (fun K hK => ?_)
          refine goes_ Tryd.func20 (by kernel_rfl) rfl #[.agg #[.string a0_0, .string a0_1, .slice A0_2 l0_2.length c0_2, .int .i64 a0_3]] (by rfl) rfl rfl (by (try simp only [List.map_toArray, List.map_cons, List.map_nil]); first | done | rfl | (simp only [List.length_drop, List.length_take]; rfl)) ?_
          with_reducible refine (damperref2_Route.calls k a0_0 a0_1 _ _ l0_2 a0_3 t267 _ ?side1 ?side2 A25.out).mono ?_
          (case side1 => repeat (first | exact (Kd.C_below HR0_2.out HB.out) | (with_reducible refine Kd.C_alloc ?_ _) | (with_reducible refine Kd.C_drewN ?_ _) | (with_reducible refine Kd.C_drew ?_)))
          (case side2 => exact HC0_2.out)
          rintro e w36 ⟨rfl, hb⟩
          refine ⟨_, rfl, ?_⟩
          replace HO263 := Aside0.mk (Kd.R_below (by (with_reducible repeat (first | apply Kd.R_alloc | apply Kd.R_drewN | apply Kd.R_drew)); exact HO263.out) hb)
          replace BK256 := Aside0.mk (blk_below (g := gb256) (pk BK256) hb)
          replace BK265 := Aside0.mk (blk_below (g := gb265) (pk BK265) hb)
          replace HB := Aside0.mk (below_step (by repeat (first | (with_reducible first | exact HB.out | apply below_alloc | apply pw_below_drewN | apply below_drew1 | refine below_set ?_ GE256.out | refine below_set ?_ GE265.out) | exact HB.out)) hb)
          (try clear hb)
          (try clear hb2)
          (try clear hk)
          (try clear hi)
          refine hK.out _ _ ⟨bc BK256 0, bc BK256 1, bc BK256 2, bc BK256 3⟩ (fun hHeld => ?_)
          clear hK K
          refine norm_ (a' := ?_) ?_ ?_
          rotate_left
          · show Act.put _ (some 31) _ = _
            simp only [Act.put, List.setIfInBounds_toArray, List.set_cons_zero, List.set_cons_succ, i64_w, i32_w]
            rfl
          refine pure_ (i := 4) (N := some 32) (v := ?_) (a' := ?_) #[true, true, true, true, true, false, false, false, false, false] rfl rfl (any_of HT_.out (by kernel_rfl)) (fun _ _ _ h => h) (Or.inl ⟨by rfl, ?_⟩) ?_ ?_
          rotate_left
          · intro w'
            go_simp
            with_reducible rfl
          rotate_left
          · simp only [Act.put, List.setIfInBounds_toArray, List.set_cons_zero, List.set_cons_succ, i64_w, i32_w]
            rfl
          refine pure_ (i := 5) (N := some 33) (v := ?_) (a' := ?_) #[true, true, true, true, true, true, false, false, false, false] rfl rfl (any_of HT_.out (by kernel_rfl)) (fun _ _ _ h => h) (Or.inl ⟨by rfl, ?_⟩) ?_ ?_
          rotate_left
          · intro w'
            go_simp
            with_reducible rfl
          rotate_left
          · simp only [Act.put, List.setIfInBounds_toArray, List.set_cons_zero, List.set_cons_succ, i64_w, i32_w]
            rfl
          refine pure_ (i := 6) (N := some 34) (v := undef) (a' := ?_) #[true, true, true, true, true, true, true, false, false, false] rfl rfl (any_of HT_.out (by kernel_rfl)) (fun _ _ _ h => h) (Or.inr ⟨by rfl, rfl⟩) ?_ ?_
          rotate_left
          · simp only [Act.put, List.setIfInBounds_toArray, List.set_cons_zero, List.set_cons_succ, i64_w, i32_w]
            rfl
          refine pure_ (i := 7) (N := some 35) (v := undef) (a' := ?_) #[true, true, true, true, true, true, true, true, false, false] rfl rfl (any_of HT_.out (by kernel_rfl)) (fun _ _ _ h => h) (Or.inr ⟨by rfl, rfl⟩) ?_ ?_
          rotate_left
          · simp only [Act.put, List.setIfInBounds_toArray, List.set_cons_zero, List.set_cons_succ, i64_w, i32_w]
            rfl
          refine pure_ (i := 8) (N := some 36) (v := undef) (a' := ?_) #[true, true, true, true, true, true, true, true, true, false] rfl rfl (any_of HT_.out (by kernel_rfl)) (fun _ _ _ h => h) (Or.inr ⟨by rfl, rfl⟩) ?_ ?_
          rotate_left
          · simp only [Act.put, List.setIfInBounds_toArray, List.set_cons_zero, List.set_cons_succ, i64_w, i32_w]
            rfl
          refine pure_ (i := 9) (N := some 37) (v := ?_) (a' := ?_) #[true, true, true, true, true, true, true, true, true, true] rfl rfl (any_of HT_.out (by kernel_rfl)) (fun _ _ _ h => h) (Or.inl ⟨by rfl, ?_⟩) ?_ ?_
          rotate_left
          · intro w'
            go_simp
            with_reducible rfl
          rotate_left
          · simp only [Act.put, List.setIfInBounds_toArray, List.set_cons_zero, List.set_cons_succ, i64_w, i32_w]
            rfl
          refine done_ (done_of HT_.out (by kernel_rfl)) ?_
          try go_wp2_with (first | (go_at_call 15; refine (damperlaw2_within.keep _ _ rfl (by first | decide | assumption | exact wi_ne (by assumption) | exact wi_ne' (by assumption) | omega) _).mono ?_; rintro e w' ⟨rfl, rfl⟩))
          go_meet
          case rel => exact ⟨_, (true), (by first | rfl | (simp; done) | (simp [*]; done)), H', ⟨by first | omega | exact Nat.le_refl _⟩, ⟨by (with_reducible repeat (first | apply Kd.R_alloc | apply Kd.R_drewN | apply Kd.R_drew)); exact HO263.out⟩, ⟨by (with_reducible repeat (first | refine blk_drewN ?_ _ | refine blk_drew ?_ | refine blk_alloc ?_ _)); exact BK256.out⟩, ⟨by (with_reducible repeat (first | refine blk_drewN ?_ _ | refine blk_drew ?_ | refine blk_alloc ?_ _)); exact BK265.out⟩, ⟨by repeat (first | (with_reducible first | exact HB.out | apply below_alloc | apply pw_below_drewN | apply below_drew1 | refine below_set ?_ GE256.out | refine below_set ?_ GE265.out) | exact HB.out)⟩⟩
      case rest =>
        clear HC14
        try clear c1
        try clear c2
        try clear p2
        try clear c4
        try clear c7
        try clear c10
        try clear c11
        try clear c12
        try clear c17
        try clear c18
        try clear c19
        try clear c20
        try clear c21
        try clear c26
        try clear c26b0
        try clear c26b1
        try clear hcz17_0
        try clear hcz17_1
        try clear hcz17_2
        try clear hcz17_3
        try clear hcz22_0
        try clear hcz22_1
        try clear hcz22_2
        try clear hcz22_3
        try clear hfz17_0
        try clear hfz17_1
        try clear hfz17_2
        try clear hfz17_3
        try clear hfz22_0
        try clear hfz22_1
        try clear hfz22_2
        try clear hfz22_3
        obtain ⟨kq, x37_13, rfl, HA, HJ13, HO_266002, BK256, BK265, HB⟩ := hcut
        cases kq with
        | zero => exact absurd HA.out (by simp [damperlaw2_SpecRoutes.j0])
        | succ kj13 =>
          have H := HA.out
          clear HA
          simp only [damperlaw2_SpecRoutes.j0] at H
          by_cases c37 : x37_13 = true
          · subst c37
            have H1 : (some false) = some r := by rw [if_pos rfl] at H; exact H
            clear H
            have H := H1
            clear H1
            exact absurd (Option.some.inj H) (by rw [hr0_.out]; decide)
          · replace c37 := Bool.eq_false_iff.mpr c37
            subst c37
            have H1 : (if (t261.length : Int) = 0 then (none) else (if (wi a4 9) = 0 then ((damperlaw1_Text.f kj13 l7).bind fun t269 => (damperlaw2_SpecRoutes.j1 kj13 t269 t260 t261 t264)) else (if (wi a4 9) = 1 then ((damperlaw1_Text.f kj13 l7).bind fun t270 => (damperlaw2_SpecRoutes.j1 kj13 t259 t270 t261 t264)) else (if (wi a4 9) = 2 then ((some (([(-1), 60, 61, a6] : List Int) : List Int)).bind fun y271 => (if 0 ≤ (wi a6 4) then (if (wi a6 4) < (y271.length : Int) then (damperlaw2_SpecRoutes.j1 kj13 t259 t260 t261 (rd y271 (wi a6 4))) else (none)) else (none))) else (if (wi a4 9) = 3 then ((some (([] : List (S41)) : List (S41))).bind fun y275 => (if y275.length + t261.length < 3518437208883 then ((some (y275 ++ t261 : List (S41))).bind fun y278 => (if 0 ≤ (wi a6 7) then (if y278.length + (wi a6 7 : Int).toNat < 3518437208883 then (damperlaw2_SpecRoutes.j1 kj13 t259 t260 (y278 ++ List.replicate (wi a6 7 : Int).toNat z41) t264) else (none)) else (none))) else (none))) else (if (wi a4 9) = 4 then ((damperlaw1_Text.f kj13 l7).bind fun t284 => (if 4 + t284.size ≤ 9223372036854775807 then (if 0 ≤ (wi a5 (t261.length : Int)) then (if (wi a5 (t261.length : Int)) < (t261.length : Int) then (damperlaw2_SpecRoutes.j1 kj13 t259 t260 (t261.set ((wi a5 (t261.length : Int)) : Int).toNat (⟨(⟨#[119, 101, 98, 45]⟩ : ByteArray) ++ t284, (rd_T41 t261 (wi a5 (t261.length : Int))).f1, (rd_T41 t261 (wi a5 (t261.length : Int))).f2⟩ : S41)) t264) else (none)) else (none)) else (none))) else (if (wi a4 9) = 5 then ((damperlaw1_Text.f kj13 l7).bind fun t286 => (if 0 ≤ (wi a5 (t261.length : Int)) then (if (wi a5 (t261.length : Int)) < (t261.length : Int) then (damperlaw2_SpecRoutes.j1 kj13 t259 t260 (t261.set ((wi a5 (t261.length : Int)) : Int).toNat (⟨(rd_T41 t261 (wi a5 (t261.length : Int))).f0, t286, (rd_T41 t261 (wi a5 (t261.length : Int))).f2⟩ : S41)) t264) else (none)) else (none))) else (if (wi a4 9) = 6 then (if 0 ≤ (wi a5 (t261.length : Int)) then (if (wi a5 (t261.length : Int)) < (t261.length : Int) then ((some (([(-1), 101, wrap64 (((rd_T41 t261 (wi a5 (t261.length : Int))).f2) + 1), a6] : List Int) : List Int)).bind fun y289 => (if 0 ≤ (wi a6 4) then (if (wi a6 4) < (y289.length : Int) then (damperlaw2_SpecRoutes.j1 kj13 t259 t260 (t261.set ((wi a5 (t261.length : Int)) : Int).toNat (⟨(rd_T41 t261 (wi a5 (t261.length : Int))).f0, (rd_T41 t261 (wi a5 (t261.length : Int))).f1, rd y289 (wi a6 4)⟩ : S41)) t264) else (none)) else (none))) else (none)) else (none)) else (if (wi a4 9) = 7 then (if 0 < (t261.length : Int) then (if 0 ≤ (wi a5 (t261.length : Int)) then (if (wi a5 (t261.length : Int)) < (t261.length : Int) then (damperlaw2_SpecRoutes.j1 kj13 t259 t260 (t261.set ((wi a5 (t261.length : Int)) : Int).toNat (⟨(rd_T41 t261 (wi a5 (t261.length : Int))).f0, (rd_T41 t261 0).f1, (rd_T41 t261 (wi a5 (t261.length : Int))).f2⟩ : S41)) t264) else (none)) else (none)) else (none)) else (if (wi a4 9) = 8 then (if 0 ≤ (wi a6 (t261.length : Int)) then (if (wi a6 (t261.length : Int)) ≤ (t261.length : Int) then (damperlaw2_SpecRoutes.j1 kj13 t259 t260 (t261.take ((wi a6 (t261.length : Int)) : Int).toNat) t264) else (none)) else (none)) else (damperlaw2_SpecRoutes.j1 kj13 t259 t260 t261 t264))))))))))) = some r := by rw [if_neg (show ¬ (false = true) by decide)] at H; exact H
            clear H
            have H := H1
            clear H1
            by_cases c38 : (t261.length : Int) = 0
            · rw [if_pos c38] at H
              exact absurd H (by simp)
            rw [if_neg c38] at H
            have c38b0 : ((t261.length : Int) == 0) = false := beq_eq_false_iff_ne.mpr c38
            have c38b1 : ((t261.length : Int) != 0) = true := bne_iff_ne.mpr c38
            have c38b2 : ¬ (t261 = []) := fun h_ => c38 (by rw [h_]; rfl)
            obtain ⟨ji39, hji39⟩ : ∃ j_ : Int, (wi a5 (t261.length : Int)) = j_ := ⟨_, rfl⟩
            replace H : (if (wi a4 9) = 0 then ((damperlaw1_Text.f kj13 l7).bind fun t269 => (damperlaw2_SpecRoutes.j1 kj13 t269 t260 t261 t264)) else (if (wi a4 9) = 1 then ((damperlaw1_Text.f kj13 l7).bind fun t270 => (damperlaw2_SpecRoutes.j1 kj13 t259 t270 t261 t264)) else (if (wi a4 9) = 2 then ((some (([(-1), 60, 61, a6] : List Int) : List Int)).bind fun y271 => (if 0 ≤ (wi a6 4) then (if (wi a6 4) < (y271.length : Int) then (damperlaw2_SpecRoutes.j1 kj13 t259 t260 t261 (rd y271 (wi a6 4))) else (none)) else (none))) else (if (wi a4 9) = 3 then ((some (([] : List (S41)) : List (S41))).bind fun y275 => (if y275.length + t261.length < 3518437208883 then ((some (y275 ++ t261 : List (S41))).bind fun y278 => (if 0 ≤ (wi a6 7) then (if y278.length + (wi a6 7 : Int).toNat < 3518437208883 then (damperlaw2_SpecRoutes.j1 kj13 t259 t260 (y278 ++ List.replicate (wi a6 7 : Int).toNat z41) t264) else (none)) else (none))) else (none))) else (if (wi a4 9) = 4 then ((damperlaw1_Text.f kj13 l7).bind fun t284 => (if 4 + t284.size ≤ 9223372036854775807 then (if 0 ≤ (ji39) then (if (ji39) < (t261.length : Int) then (damperlaw2_SpecRoutes.j1 kj13 t259 t260 (t261.set ((ji39) : Int).toNat (⟨(⟨#[119, 101, 98, 45]⟩ : ByteArray) ++ t284, (rd_T41 t261 (ji39)).f1, (rd_T41 t261 (ji39)).f2⟩ : S41)) t264) else (none)) else (none)) else (none))) else (if (wi a4 9) = 5 then ((damperlaw1_Text.f kj13 l7).bind fun t286 => (if 0 ≤ (ji39) then (if (ji39) < (t261.length : Int) then (damperlaw2_SpecRoutes.j1 kj13 t259 t260 (t261.set ((ji39) : Int).toNat (⟨(rd_T41 t261 (ji39)).f0, t286, (rd_T41 t261 (ji39)).f2⟩ : S41)) t264) else (none)) else (none))) else (if (wi a4 9) = 6 then (if 0 ≤ (ji39) then (if (ji39) < (t261.length : Int) then ((some (([(-1), 101, wrap64 (((rd_T41 t261 (ji39)).f2) + 1), a6] : List Int) : List Int)).bind fun y289 => (if 0 ≤ (wi a6 4) then (if (wi a6 4) < (y289.length : Int) then (damperlaw2_SpecRoutes.j1 kj13 t259 t260 (t261.set ((ji39) : Int).toNat (⟨(rd_T41 t261 (ji39)).f0, (rd_T41 t261 (ji39)).f1, rd y289 (wi a6 4)⟩ : S41)) t264) else (none)) else (none))) else (none)) else (none)) else (if (wi a4 9) = 7 then (if 0 < (t261.length : Int) then (if 0 ≤ (ji39) then (if (ji39) < (t261.length : Int) then (damperlaw2_SpecRoutes.j1 kj13 t259 t260 (t261.set ((ji39) : Int).toNat (⟨(rd_T41 t261 (ji39)).f0, (rd_T41 t261 0).f1, (rd_T41 t261 (ji39)).f2⟩ : S41)) t264) else (none)) else (none)) else (none)) else (if (wi a4 9) = 8 then (if 0 ≤ (wi a6 (t261.length : Int)) then (if (wi a6 (t261.length : Int)) ≤ (t261.length : Int) then (damperlaw2_SpecRoutes.j1 kj13 t259 t260 (t261.take ((wi a6 (t261.length : Int)) : Int).toNat) t264) else (none)) else (none)) else (damperlaw2_SpecRoutes.j1 kj13 t259 t260 t261 t264)))))))))) = some r := by first | (rw [hji39] at H; exact H) | (simp only [hji39] at H ⊢; exact H)
            obtain ⟨ji40, hji40⟩ : ∃ j_ : Int, (wi a4 9) = j_ := ⟨_, rfl⟩
            replace H : (if (ji40) = 0 then ((damperlaw1_Text.f kj13 l7).bind fun t269 => (damperlaw2_SpecRoutes.j1 kj13 t269 t260 t261 t264)) else (if (ji40) = 1 then ((damperlaw1_Text.f kj13 l7).bind fun t270 => (damperlaw2_SpecRoutes.j1 kj13 t259 t270 t261 t264)) else (if (ji40) = 2 then ((some (([(-1), 60, 61, a6] : List Int) : List Int)).bind fun y271 => (if 0 ≤ (wi a6 4) then (if (wi a6 4) < (y271.length : Int) then (damperlaw2_SpecRoutes.j1 kj13 t259 t260 t261 (rd y271 (wi a6 4))) else (none)) else (none))) else (if (ji40) = 3 then ((some (([] : List (S41)) : List (S41))).bind fun y275 => (if y275.length + t261.length < 3518437208883 then ((some (y275 ++ t261 : List (S41))).bind fun y278 => (if 0 ≤ (wi a6 7) then (if y278.length + (wi a6 7 : Int).toNat < 3518437208883 then (damperlaw2_SpecRoutes.j1 kj13 t259 t260 (y278 ++ List.replicate (wi a6 7 : Int).toNat z41) t264) else (none)) else (none))) else (none))) else (if (ji40) = 4 then ((damperlaw1_Text.f kj13 l7).bind fun t284 => (if 4 + t284.size ≤ 9223372036854775807 then (if 0 ≤ (ji39) then (if (ji39) < (t261.length : Int) then (damperlaw2_SpecRoutes.j1 kj13 t259 t260 (t261.set ((ji39) : Int).toNat (⟨(⟨#[119, 101, 98, 45]⟩ : ByteArray) ++ t284, (rd_T41 t261 (ji39)).f1, (rd_T41 t261 (ji39)).f2⟩ : S41)) t264) else (none)) else (none)) else (none))) else (if (ji40) = 5 then ((damperlaw1_Text.f kj13 l7).bind fun t286 => (if 0 ≤ (ji39) then (if (ji39) < (t261.length : Int) then (damperlaw2_SpecRoutes.j1 kj13 t259 t260 (t261.set ((ji39) : Int).toNat (⟨(rd_T41 t261 (ji39)).f0, t286, (rd_T41 t261 (ji39)).f2⟩ : S41)) t264) else (none)) else (none))) else (if (ji40) = 6 then (if 0 ≤ (ji39) then (if (ji39) < (t261.length : Int) then ((some (([(-1), 101, wrap64 (((rd_T41 t261 (ji39)).f2) + 1), a6] : List Int) : List Int)).bind fun y289 => (if 0 ≤ (wi a6 4) then (if (wi a6 4) < (y289.length : Int) then (damperlaw2_SpecRoutes.j1 kj13 t259 t260 (t261.set ((ji39) : Int).toNat (⟨(rd_T41 t261 (ji39)).f0, (rd_T41 t261 (ji39)).f1, rd y289 (wi a6 4)⟩ : S41)) t264) else (none)) else (none))) else (none)) else (none)) else (if (ji40) = 7 then (if 0 < (t261.length : Int) then (if 0 ≤ (ji39) then (if (ji39) < (t261.length : Int) then (damperlaw2_SpecRoutes.j1 kj13 t259 t260 (t261.set ((ji39) : Int).toNat (⟨(rd_T41 t261 (ji39)).f0, (rd_T41 t261 0).f1, (rd_T41 t261 (ji39)).f2⟩ : S41)) t264) else (none)) else (none)) else (none)) else (if (ji40) = 8 then (if 0 ≤ (wi a6 (t261.length : Int)) then (if (wi a6 (t261.length : Int)) ≤ (t261.length : Int) then (damperlaw2_SpecRoutes.j1 kj13 t259 t260 (t261.take ((wi a6 (t261.length : Int)) : Int).toNat) t264) else (none)) else (none)) else (damperlaw2_SpecRoutes.j1 kj13 t259 t260 t261 t264)))))))))) = some r := by first | (rw [hji40] at H; exact H) | (simp only [hji40] at H ⊢; exact H)
            have HC41 := Aside0.mk H
            clear H
            have hnb42 := NB265_256.out
            have hnc42 := NB256_265.out
            have hcz43_0 : wc.cell? ⟨gb265, 0, none⟩ = some (.string t259) := bc BK265 0
            have hcz43_1 : wc.cell? ⟨gb265, 1, none⟩ = some (.string t260) := bc BK265 1
            have hcz43_2 : wc.cell? ⟨gb265, 2, none⟩ = some (.slice Ao23 t261.length co23) := bc BK265 2
            have hcz43_3 : wc.cell? ⟨gb265, 3, none⟩ = some (.int .i64 t264) := bc BK265 3
            have hfz43_0 := blk_frozen BK265.out 0
            have hfz43_1 := blk_frozen BK265.out 1
            have hfz43_2 := blk_frozen BK265.out 2
            have hfz43_3 := blk_frozen BK265.out 3
            go_upto_block 0 with (first | (go_at_call 15; refine (damperlaw2_within.keep _ _ rfl (by first | decide | assumption | exact wi_ne (by assumption) | exact wi_ne' (by assumption) | omega) _).mono ?_; rintro e w' ⟨rfl, rfl⟩))
            go_cut [] (fun wc => ∃ (kq : Nat) (x266000_40 : ByteArray) (x266001_40 : ByteArray) (x266002_40 : List (S41)) (x266003_40 : Int) (u266002 : Value), Aside0 (damperlaw2_SpecRoutes.j1 kq x266000_40 x266001_40 x266002_40 x266003_40 = some r) ∧ Aside0 (kq ≤ kj13) ∧ Aside0 (Kd.R k41 41 wc w.heap.size (fun _ => True) u266002 x266002_40) ∧ Aside0 (wc.heap[gb256]? = some (.cells #[.string a0_0, .string a0_1, (.slice A0_2 l0_2.length c0_2), .int .i64 a0_3] 35 (0, 0))) ∧ Aside0 (wc.heap[gb265]? = some (.cells #[.string x266000_40, .string x266001_40, u266002, .int .i64 x266003_40] 35 (0, 0))) ∧ Aside0 (Below w.heap.size w wc))
            case first =>
              have H := HC41.out
              clear HC41
              by_cases c44 : (ji40) = 0
              · rw [if_pos c44] at H
                have c44b0 : ((ji40) == 0) = true := beq_iff_eq.mpr c44
                have c44b1 : ((ji40) != 0) = false := bne_eq_false_iff_eq.mpr c44
                clear c44
                (first | rw [c44b0] | (simp only [i64_w, i32_w]; rw [c44b0]) | rw [c44b1] | skip)
                replace H := Option.bind_eq_some_iff.mp H
                obtain ⟨t269, A450, H⟩ := H
                replace H : (damperlaw2_SpecRoutes.j1 kj13 t269 t260 t261 t264) = some r := H
                have A45 := Aside0.mk A450
                clear A450
                have H' := Aside0.mk H
                clear H
                go_wp2_with (first | (go_at_call 15; refine (damperlaw2_within.keep _ _ rfl (by first | decide | assumption | exact wi_ne (by assumption) | exact wi_ne' (by assumption) | omega) _).mono ?_; rintro e w' ⟨rfl, rfl⟩) | ((with_reducible refine gate_callee (f := 16) rfl ?_); refine goesL_ (some 48) rfl rfl Tryd.func16 (by kernel_rfl) rfl #[.slice A7 l7.length c7] rfl (by (try simp only [List.map_toArray, List.map_cons, List.map_nil]); first | done | rfl | (simp only [List.length_drop, List.length_take]; rfl)) ?_; (with_reducible refine (damperlaw1_Text.calls kj13 _ _ l7 t269 _ ?side1 ?side2 A45.out).mono ?_); (case side1 => repeat (first | exact (Kd.C_below HR7.out HB.out) | (with_reducible refine Kd.C_alloc ?_ _) | (with_reducible refine Kd.C_drewN ?_ _) | (with_reducible refine Kd.C_drew ?_))); (case side2 => exact HC7.out); rintro e w46 ⟨rfl, hb⟩; refine ⟨_, rfl, ?_⟩; have n0_ := Aside0.mk (Kd.R_below (by (with_reducible repeat (first | apply Kd.R_alloc | apply Kd.R_drewN | apply Kd.R_drew)); exact HO_266002.out) hb); have n1_ := Aside0.mk (blk_below (g := gb256) (pk BK256) hb); have n2_ := Aside0.mk (blk_below (g := gb265) (pk BK265) hb); have n3_ := Aside0.mk (below_step (by repeat (first | (with_reducible first | exact HB.out | apply below_alloc | apply pw_below_drewN | apply below_drew1 | refine below_set ?_ GE256.out | refine below_set ?_ GE265.out) | exact HB.out)) hb); clear HO_266002; clear BK256; clear BK265; clear HB; have HO_266002 := n0_; have BK256 := n1_; have BK265 := n2_; have HB := n3_; clear n0_ n1_ n2_ n3_; (try clear hb); (try clear hb2); (try clear hk); (try clear hi); have hnb47 := NB265_256.out; have hnc47 := NB256_265.out; have hcz48_0 : w46.cell? ⟨gb265, 0, none⟩ = some (.string t259) := bc BK265 0; have hcz48_1 : w46.cell? ⟨gb265, 1, none⟩ = some (.string t260) := bc BK265 1; have hcz48_2 : w46.cell? ⟨gb265, 2, none⟩ = some (.slice Ao23 t261.length co23) := bc BK265 2; have hcz48_3 : w46.cell? ⟨gb265, 3, none⟩ = some (.int .i64 t264) := bc BK265 3; have hfz48_0 := blk_frozen BK265.out 0; have hfz48_1 := blk_frozen BK265.out 1; have hfz48_2 := blk_frozen BK265.out 2; have hfz48_3 := blk_frozen BK265.out 3))
                go_meet
                case rel => exact ⟨_, (t269), (t260), (t261), (t264), (.slice Ao23 t261.length co23), H', ⟨by have := HJ13.out; first | omega | exact Nat.le_refl _⟩, ⟨by (with_reducible repeat (first | apply Kd.R_alloc | apply Kd.R_drewN | apply Kd.R_drew)); exact Kd.R_mono (Kd.R_far (p := ⟨gb265, 0, none⟩) (Kd.R_types HO_266002.out BK265.out (by decide)) (fun _ hk => hk.2) (.string t269)) (fun _ hk => trivial)⟩, ⟨by (with_reducible repeat (first | refine blk_drewN ?_ _ | refine blk_drew ?_ | refine blk_alloc ?_ _)); refine blk_far ?_ NB256_265.out _; (with_reducible repeat (first | refine blk_drewN ?_ _ | refine blk_drew ?_ | refine blk_alloc ?_ _)); exact BK256.out⟩, ⟨by (with_reducible repeat (first | refine blk_drewN ?_ _ | refine blk_drew ?_ | refine blk_alloc ?_ _)); refine blk_put (cs := #[.string t259, .string t260, .slice Ao23 t261.length co23, .int .i64 t264]) ?_ 0 _ rfl; (with_reducible repeat (first | refine blk_drewN ?_ _ | refine blk_drew ?_ | refine blk_alloc ?_ _)); exact BK265.out⟩, ⟨by repeat (first | (with_reducible first | exact HB.out | apply below_alloc | apply pw_below_drewN | apply below_drew1 | refine below_set ?_ GE256.out | refine below_set ?_ GE265.out) | exact HB.out)⟩⟩
              · rw [if_neg c44] at H
                have c44b0 : ((ji40) == 0) = false := beq_eq_false_iff_ne.mpr c44
                have c44b1 : ((ji40) != 0) = true := bne_iff_ne.mpr c44
                (first | rw [c44b0] | (simp only [i64_w, i32_w]; rw [c44b0]) | rw [c44b1] | skip)
                by_cases c49 : (ji40) = 1
                · rw [if_pos c49] at H
                  have c49b0 : ((ji40) == 1) = true := beq_iff_eq.mpr c49
                  have c49b1 : ((ji40) != 1) = false := bne_eq_false_iff_eq.mpr c49
                  clear c49
                  replace H := Option.bind_eq_some_iff.mp H
                  obtain ⟨t270, A500, H⟩ := H
                  replace H : (damperlaw2_SpecRoutes.j1 kj13 t259 t270 t261 t264) = some r := H
                  have A50 := Aside0.mk A500
                  clear A500
                  have H' := Aside0.mk H
                  clear H
                  go_wp2_with (first | (go_at_call 15; refine (damperlaw2_within.keep _ _ rfl (by first | decide | assumption | exact wi_ne (by assumption) | exact wi_ne' (by assumption) | omega) _).mono ?_; rintro e w' ⟨rfl, rfl⟩) | ((with_reducible refine gate_callee (f := 16) rfl ?_); refine goesL_ (some 53) rfl rfl Tryd.func16 (by kernel_rfl) rfl #[.slice A7 l7.length c7] rfl (by (try simp only [List.map_toArray, List.map_cons, List.map_nil]); first | done | rfl | (simp only [List.length_drop, List.length_take]; rfl)) ?_; (with_reducible refine (damperlaw1_Text.calls kj13 _ _ l7 t270 _ ?side1 ?side2 A50.out).mono ?_); (case side1 => repeat (first | exact (Kd.C_below HR7.out HB.out) | (with_reducible refine Kd.C_alloc ?_ _) | (with_reducible refine Kd.C_drewN ?_ _) | (with_reducible refine Kd.C_drew ?_))); (case side2 => exact HC7.out); rintro e w51 ⟨rfl, hb⟩; refine ⟨_, rfl, ?_⟩; have n0_ := Aside0.mk (Kd.R_below (by (with_reducible repeat (first | apply Kd.R_alloc | apply Kd.R_drewN | apply Kd.R_drew)); exact HO_266002.out) hb); have n1_ := Aside0.mk (blk_below (g := gb256) (pk BK256) hb); have n2_ := Aside0.mk (blk_below (g := gb265) (pk BK265) hb); have n3_ := Aside0.mk (below_step (by repeat (first | (with_reducible first | exact HB.out | apply below_alloc | apply pw_below_drewN | apply below_drew1 | refine below_set ?_ GE256.out | refine below_set ?_ GE265.out) | exact HB.out)) hb); clear HO_266002; clear BK256; clear BK265; clear HB; have HO_266002 := n0_; have BK256 := n1_; have BK265 := n2_; have HB := n3_; clear n0_ n1_ n2_ n3_; (try clear hb); (try clear hb2); (try clear hk); (try clear hi); have hnb52 := NB265_256.out; have hnc52 := NB256_265.out; have hcz53_0 : w51.cell? ⟨gb265, 0, none⟩ = some (.string t259) := bc BK265 0; have hcz53_1 : w51.cell? ⟨gb265, 1, none⟩ = some (.string t260) := bc BK265 1; have hcz53_2 : w51.cell? ⟨gb265, 2, none⟩ = some (.slice Ao23 t261.length co23) := bc BK265 2; have hcz53_3 : w51.cell? ⟨gb265, 3, none⟩ = some (.int .i64 t264) := bc BK265 3; have hfz53_0 := blk_frozen BK265.out 0; have hfz53_1 := blk_frozen BK265.out 1; have hfz53_2 := blk_frozen BK265.out 2; have hfz53_3 := blk_frozen BK265.out 3))
                  go_meet
                  case rel => exact ⟨_, (t259), (t270), (t261), (t264), (.slice Ao23 t261.length co23), H', ⟨by have := HJ13.out; first | omega | exact Nat.le_refl _⟩, ⟨by (with_reducible repeat (first | apply Kd.R_alloc | apply Kd.R_drewN | apply Kd.R_drew)); exact Kd.R_mono (Kd.R_far (p := ⟨gb265, 1, none⟩) (Kd.R_types HO_266002.out BK265.out (by decide)) (fun _ hk => hk.2) (.string t270)) (fun _ hk => trivial)⟩, ⟨by (with_reducible repeat (first | refine blk_drewN ?_ _ | refine blk_drew ?_ | refine blk_alloc ?_ _)); refine blk_far ?_ NB256_265.out _; (with_reducible repeat (first | refine blk_drewN ?_ _ | refine blk_drew ?_ | refine blk_alloc ?_ _)); exact BK256.out⟩, ⟨by (with_reducible repeat (first | refine blk_drewN ?_ _ | refine blk_drew ?_ | refine blk_alloc ?_ _)); refine blk_put (cs := #[.string t259, .string t260, .slice Ao23 t261.length co23, .int .i64 t264]) ?_ 1 _ rfl; (with_reducible repeat (first | refine blk_drewN ?_ _ | refine blk_drew ?_ | refine blk_alloc ?_ _)); exact BK265.out⟩, ⟨by repeat (first | (with_reducible first | exact HB.out | apply below_alloc | apply pw_below_drewN | apply below_drew1 | refine below_set ?_ GE256.out | refine below_set ?_ GE265.out) | exact HB.out)⟩⟩
                · rw [if_neg c49] at H
                  have c49b0 : ((ji40) == 1) = false := beq_eq_false_iff_ne.mpr c49
                  have c49b1 : ((ji40) != 1) = true := bne_iff_ne.mpr c49
                  by_cases c54 : (ji40) = 2
                  · rw [if_pos c54] at H
                    have c54b0 : ((ji40) == 2) = true := beq_iff_eq.mpr c54
                    have c54b1 : ((ji40) != 2) = false := bne_eq_false_iff_eq.mpr c54
                    clear c54
                    obtain ⟨y271, hy271⟩ : ∃ y_ : List Int, y_ = (([(-1), 60, 61, a6] : List Int)) := ⟨_, rfl⟩
                    replace H : (if 0 ≤ (wi a6 4) then (if (wi a6 4) < (y271.length : Int) then (damperlaw2_SpecRoutes.j1 kj13 t259 t260 t261 (rd y271 (wi a6 4))) else (none)) else (none)) = some r := by first | (rw [hy271]; with_reducible exact H) | (have H2_ := (Option.bind_some _ _).symm.trans H; rw [hy271]; with_reducible exact H2_) | (have H2_ := (Option.bind_some _ _).symm.trans H; with_reducible exact H2_) | with_reducible exact H | (rw [hy271]; exact H) | exact H
                    have Ny271 := Aside0.mk hy271
                    clear hy271
                    obtain ⟨ji55, hji55⟩ : ∃ j_ : Int, (wi a6 4) = j_ := ⟨_, rfl⟩
                    replace H : (if 0 ≤ (ji55) then (if (ji55) < (y271.length : Int) then (damperlaw2_SpecRoutes.j1 kj13 t259 t260 t261 (rd y271 (ji55))) else (none)) else (none)) = some r := by first | (rw [hji55] at H; exact H) | (simp only [hji55] at H ⊢; exact H)
                    by_cases c56 : 0 ≤ (ji55)
                    rotate_left
                    · rw [if_neg c56] at H
                      exact absurd H (by simp)
                    rw [if_pos c56] at H
                    have c56b0 : decide (0 ≤ (ji55)) = true := decide_eq_true c56
                    clear c56
                    by_cases c57 : (ji55) < (y271.length : Int)
                    rotate_left
                    · rw [if_neg c57] at H
                      exact absurd H (by simp)
                    rw [if_pos c57] at H
                    have c57b0 : decide ((ji55) < (y271.length : Int)) = true := decide_eq_true c57
                    clear c57
                    have H' := Aside0.mk H
                    clear H
                    go_wp2_with (first | (go_at_call 15; refine (damperlaw2_within.keep _ _ rfl (by first | decide | assumption | exact wi_ne (by assumption) | exact wi_ne' (by assumption) | omega) _).mono ?_; rintro e w' ⟨rfl, rfl⟩) | ((with_reducible refine gate_dst (N := 58) rfl ?_); refine Kd.R_lit (Kd.int .i64) _ 3 ?hg (N := 58) ?hd (xs := ([(-1), 60, 61, a6] : List Int)) (inner := [.int .i64 (-1), .int .i64 60, .int .i64 61, .int .i64 a6]) (ok := fun _ => True) (okp := fun _ => True) ?hr ?hp (fun _ hk => hk) trivial (Below.refl _ _) (Nat.le_refl _) (by simp) ?_; (case hd => rfl); (case hg => rfl); (case hr => first | (go_simp; done) | (go_simp; rfl)); (case hp => exact (Reps.one (show Kd.M (Kd.int .i64) _ _ _ (-1) [.int .i64 (-1)] from rfl) (Reps.one (show Kd.M (Kd.int .i64) _ _ _ 60 [.int .i64 60] from rfl) (Reps.one (show Kd.M (Kd.int .i64) _ _ _ 61 [.int .i64 61] from rfl) (Reps.one (show Kd.M (Kd.int .i64) _ _ _ a6 [.int .i64 a6] from rfl) (Reps.none _ _)))))); intro v272 w58 ho59 hb hg_ hnew_; clear hg_ hnew_; (first | rw [← Ny271.out] at ho59 | (simp only [Int.reduceToNat] at ho59; rw [← Ny271.out] at ho59)); have n0_ := Aside0.mk (Kd.R_below (by (with_reducible repeat (first | apply Kd.R_alloc | apply Kd.R_drewN | apply Kd.R_drew)); exact HO_266002.out) hb); have n1_ := Aside0.mk (Kd.R_lower ho59 (below_size (by repeat (first | (with_reducible first | exact HB.out | apply below_alloc | apply pw_below_drewN | apply below_drew1 | refine below_set ?_ GE256.out | refine below_set ?_ GE265.out) | exact HB.out)))); have n2_ := Aside0.mk (blk_below (g := gb256) (pk BK256) hb); have n3_ := Aside0.mk (blk_below (g := gb265) (pk BK265) hb); have n4_ := Aside0.mk (below_step (by repeat (first | (with_reducible first | exact HB.out | apply below_alloc | apply pw_below_drewN | apply below_drew1 | refine below_set ?_ GE256.out | refine below_set ?_ GE265.out) | exact HB.out)) hb); clear HO_266002; clear BK256; clear BK265; clear HB; have HO_266002 := n0_; have HO273 := n1_; have BK256 := n2_; have BK265 := n3_; have HB := n4_; clear n0_ n1_ n2_ n3_ n4_; clear hb ho59; obtain ⟨Ao60, co60, eo60⟩ := Kd.R_slice HO273.out; subst eo60; have p274 : 0 ≤ ((ji55) : Int) := of_decide_eq_true (by first | (with_reducible assumption) | assumption); have q274 : (ji55) < (y271.length : Int) := of_decide_eq_true (by first | (with_reducible assumption) | assumption); obtain ⟨ad274, e274, hx274_0⟩ := Kd.at_int (Kd.R_reads' HO273.out).2.2 (ji55) p274 q274; cases e274; replace p274 := eq_true p274; replace q274 := eq_true q274; have hnb61 := NB265_256.out; have hnc61 := NB256_265.out; have hcz62_0 : w58.cell? ⟨gb265, 0, none⟩ = some (.string t259) := bc BK265 0; have hcz62_1 : w58.cell? ⟨gb265, 1, none⟩ = some (.string t260) := bc BK265 1; have hcz62_2 : w58.cell? ⟨gb265, 2, none⟩ = some (.slice Ao23 t261.length co23) := bc BK265 2; have hcz62_3 : w58.cell? ⟨gb265, 3, none⟩ = some (.int .i64 t264) := bc BK265 3; have hfz62_0 := blk_frozen BK265.out 0; have hfz62_1 := blk_frozen BK265.out 1; have hfz62_2 := blk_frozen BK265.out 2; have hfz62_3 := blk_frozen BK265.out 3))
                    go_meet
                    case rel => exact ⟨_, (t259), (t260), (t261), (rd y271 (ji55)), (.slice Ao23 t261.length co23), H', ⟨by have := HJ13.out; first | omega | exact Nat.le_refl _⟩, ⟨by (with_reducible repeat (first | apply Kd.R_alloc | apply Kd.R_drewN | apply Kd.R_drew)); exact Kd.R_mono (Kd.R_far (p := ⟨gb265, 3, none⟩) (Kd.R_types HO_266002.out BK265.out (by decide)) (fun _ hk => hk.2) (.int .i64 (rd y271 (ji55)))) (fun _ hk => trivial)⟩, ⟨by (with_reducible repeat (first | refine blk_drewN ?_ _ | refine blk_drew ?_ | refine blk_alloc ?_ _)); refine blk_far ?_ NB256_265.out _; (with_reducible repeat (first | refine blk_drewN ?_ _ | refine blk_drew ?_ | refine blk_alloc ?_ _)); exact BK256.out⟩, ⟨by (with_reducible repeat (first | refine blk_drewN ?_ _ | refine blk_drew ?_ | refine blk_alloc ?_ _)); refine blk_put (cs := #[.string t259, .string t260, .slice Ao23 t261.length co23, .int .i64 t264]) ?_ 3 _ rfl; (with_reducible repeat (first | refine blk_drewN ?_ _ | refine blk_drew ?_ | refine blk_alloc ?_ _)); exact BK265.out⟩, ⟨by repeat (first | (with_reducible first | exact HB.out | apply below_alloc | apply pw_below_drewN | apply below_drew1 | refine below_set ?_ GE256.out | refine below_set ?_ GE265.out) | exact HB.out)⟩⟩
                  · rw [if_neg c54] at H
                    have c54b0 : ((ji40) == 2) = false := beq_eq_false_iff_ne.mpr c54
                    have c54b1 : ((ji40) != 2) = true := bne_iff_ne.mpr c54
                    by_cases c63 : (ji40) = 3
                    · rw [if_pos c63] at H
                      have c63b0 : ((ji40) == 3) = true := beq_iff_eq.mpr c63
                      have c63b1 : ((ji40) != 3) = false := bne_eq_false_iff_eq.mpr c63
                      clear c63
                      obtain ⟨y275, hy275⟩ : ∃ y_ : List (S41), y_ = (([] : List (S41))) := ⟨_, rfl⟩
                      replace H : (if y275.length + t261.length < 3518437208883 then ((some (y275 ++ t261 : List (S41))).bind fun y278 => (if 0 ≤ (wi a6 7) then (if y278.length + (wi a6 7 : Int).toNat < 3518437208883 then (damperlaw2_SpecRoutes.j1 kj13 t259 t260 (y278 ++ List.replicate (wi a6 7 : Int).toNat z41) t264) else (none)) else (none))) else (none)) = some r := by first | (rw [hy275]; with_reducible exact H) | (have H2_ := (Option.bind_some _ _).symm.trans H; rw [hy275]; with_reducible exact H2_) | (have H2_ := (Option.bind_some _ _).symm.trans H; with_reducible exact H2_) | with_reducible exact H | (rw [hy275]; exact H) | exact H
                      have Ny275 := Aside0.mk hy275
                      clear hy275
                      by_cases c64 : y275.length + t261.length < 3518437208883
                      rotate_left
                      · rw [if_neg c64] at H
                        exact absurd H (by simp)
                      rw [if_pos c64] at H
                      have LMc64 := Aside0.mk c64
                      clear c64
                      obtain ⟨y278, hy278⟩ : ∃ y_ : List (S41), y_ = (y275 ++ t261) := ⟨_, rfl⟩
                      replace H : (if 0 ≤ (wi a6 7) then (if y278.length + (wi a6 7 : Int).toNat < 3518437208883 then (damperlaw2_SpecRoutes.j1 kj13 t259 t260 (y278 ++ List.replicate (wi a6 7 : Int).toNat z41) t264) else (none)) else (none)) = some r := by first | (rw [hy278]; with_reducible exact H) | (have H2_ := (Option.bind_some _ _).symm.trans H; rw [hy278]; with_reducible exact H2_) | (have H2_ := (Option.bind_some _ _).symm.trans H; with_reducible exact H2_) | with_reducible exact H | (rw [hy278]; exact H) | exact H
                      have Ny278 := Aside0.mk hy278
                      clear hy278
                      obtain ⟨ji65, hji65⟩ : ∃ j_ : Int, (wi a6 7) = j_ := ⟨_, rfl⟩
                      replace H : (if 0 ≤ (ji65) then (if y278.length + (ji65 : Int).toNat < 3518437208883 then (damperlaw2_SpecRoutes.j1 kj13 t259 t260 (y278 ++ List.replicate (ji65 : Int).toNat z41) t264) else (none)) else (none)) = some r := by first | (rw [hji65] at H; exact H) | (simp only [hji65] at H ⊢; exact H)
                      by_cases c66 : 0 ≤ (ji65)
                      rotate_left
                      · rw [if_neg c66] at H
                        exact absurd H (by simp)
                      rw [if_pos c66] at H
                      have c66b0 := eq_true c66
                      have c66b1 : decide (0 ≤ (ji65)) = true := decide_eq_true c66
                      try have c66bm : max (ji65) 0 = (ji65) := Int.max_eq_left c66
                      clear c66
                      by_cases c67 : y278.length + (ji65 : Int).toNat < 3518437208883
                      rotate_left
                      · rw [if_neg c67] at H
                        exact absurd H (by simp)
                      rw [if_pos c67] at H
                      have LMc67 := Aside0.mk c67
                      clear c67
                      obtain ⟨y281, hy281⟩ : ∃ y_ : List (S41), y_ = (y278 ++ List.replicate (ji65 : Int).toNat z41) := ⟨_, rfl⟩
                      replace H : (damperlaw2_SpecRoutes.j1 kj13 t259 t260 y281 t264) = some r := by first | (rw [hy281]; with_reducible exact H) | (have H2_ := (Option.bind_some _ _).symm.trans H; rw [hy281]; with_reducible exact H2_) | (have H2_ := (Option.bind_some _ _).symm.trans H; with_reducible exact H2_) | with_reducible exact H | (rw [hy281]; exact H) | exact H
                      have Ny281 := Aside0.mk hy281
                      clear hy281
                      have H' := Aside0.mk H
                      clear H
                      go_wp2_with (first | (go_at_call 15; refine (damperlaw2_within.keep _ _ rfl (by first | decide | assumption | exact wi_ne (by assumption) | exact wi_ne' (by assumption) | omega) _).mono ?_; rintro e w' ⟨rfl, rfl⟩) | ((with_reducible refine gate_dst (N := 66) rfl ?_); refine Kd.R_lit k41 _ 41 ?hg (N := 66) ?hd (xs := ([] : List (S41))) (inner := []) (ok := fun _ => True) (okp := fun _ => True) ?hr ?hp (fun _ hk => hk) trivial (Below.refl _ _) (Nat.le_refl _) (by simp) ?_; (case hd => rfl); (case hg => rfl); (case hr => first | (go_simp; done) | (go_simp; rfl)); (case hp => exact (Reps.none _ _)); intro v276 w68 ho69 hb hg_ hnew_; clear hg_ hnew_; (first | rw [← Ny275.out] at ho69 | (simp only [Int.reduceToNat] at ho69; rw [← Ny275.out] at ho69)); have n0_ := Aside0.mk (Kd.R_elder' (by (with_reducible repeat (first | apply Kd.R_alloc | apply Kd.R_drewN | apply Kd.R_drew)); exact HO_266002.out) (Kd.R_base ho69) hb); have n1_ := Aside0.mk (Kd.R_lower (Kd.R_new' ho69 (Kd.R_lt (by (with_reducible repeat (first | apply Kd.R_alloc | apply Kd.R_drewN | apply Kd.R_drew)); exact HO_266002.out))) (below_size (by repeat (first | (with_reducible first | exact HB.out | apply below_alloc | apply pw_below_drewN | apply below_drew1 | refine below_set ?_ GE256.out | refine below_set ?_ GE265.out) | exact HB.out)))); have n2_ := Aside0.mk (blk_below (g := gb256) (pk BK256) hb); have n3_ := Aside0.mk (blk_below (g := gb265) (pk BK265) hb); have n4_ := Aside0.mk (below_step (by repeat (first | (with_reducible first | exact HB.out | apply below_alloc | apply pw_below_drewN | apply below_drew1 | refine below_set ?_ GE256.out | refine below_set ?_ GE265.out) | exact HB.out)) hb); clear HO_266002; clear BK256; clear BK265; clear HB; have HO_266002 := n0_; have HO277 := n1_; have BK256 := n2_; have BK265 := n3_; have HB := n4_; clear n0_ n1_ n2_ n3_ n4_; clear hb ho69; have hnb70 := NB265_256.out; have hnc70 := NB256_265.out; have hcz71_0 : w68.cell? ⟨gb265, 0, none⟩ = some (.string t259) := bc BK265 0; have hcz71_1 : w68.cell? ⟨gb265, 1, none⟩ = some (.string t260) := bc BK265 1; have hcz71_2 : w68.cell? ⟨gb265, 2, none⟩ = some (.slice Ao23 t261.length co23) := bc BK265 2; have hcz71_3 : w68.cell? ⟨gb265, 3, none⟩ = some (.int .i64 t264) := bc BK265 3; have hfz71_0 := blk_frozen BK265.out 0; have hfz71_1 := blk_frozen BK265.out 1; have hfz71_2 := blk_frozen BK265.out 2; have hfz71_3 := blk_frozen BK265.out 3) | ((with_reducible refine gate_builtin (b := .append) (xs := #[.tmp 66, .tmp 68]) rfl ?_); at_builtin; refine Kd.R_append_rows k41 (w0 := w) w.heap.size rfl (.tmp 66) (.tmp 68) 33 41 (.agg #[(.string ⟨#[]⟩), (.string ⟨#[]⟩), (.int .i64 0)]) 40 rfl Tryd.underlying33 info41 rfl (by decide) (by omega) v276 y275 t261 _ _ _ (fun k_ => some k_ ≠ (.slice Ao23 t261.length co23 : Value).ownBlock) (fun _ => False) rfl rfl ?aO ?aR (fun _ _ h => h) (fun _ h => h.elim) ?aF ?aB ?aS ?aL ?_; (case aR => repeat (first | exact (Kd.R_reads' HO_266002.out).2.2 | (with_reducible refine Kd.C_alloc ?_ _) | (with_reducible refine Kd.C_drewN ?_ _) | (with_reducible refine Kd.C_drew ?_))); (case aB => exact (by repeat (first | (with_reducible first | exact HB.out | apply below_alloc | apply pw_below_drewN | apply below_drew1 | refine below_set ?_ GE256.out | refine below_set ?_ GE265.out) | exact HB.out))); (case aF => exact (fun k_ hk => Kd.fresh' (Kd.R_lt (by (with_reducible repeat (first | apply Kd.R_alloc | apply Kd.R_drewN | apply Kd.R_drew)); exact HO_266002.out)) k_ hk)); (case aO => exact (by (with_reducible repeat (first | apply Kd.R_alloc | apply Kd.R_drewN | apply Kd.R_drew)); exact Kd.R_mono HO277.out (fun _ hk => hk.2))); (case aS => exact (below_size (by repeat (first | (with_reducible first | exact HB.out | apply below_alloc | apply pw_below_drewN | apply below_drew1 | refine below_set ?_ GE256.out | refine below_set ?_ GE265.out) | exact HB.out)))); (case aL => have := LMc64.out; omega); intro v279 w72 ho hb hg hat; rw [← Ny278.out] at ho; have n0_ := Aside0.mk (Kd.R_after (ok := (fun _ => True)) (by (with_reducible repeat (first | apply Kd.R_alloc | apply Kd.R_drewN | apply Kd.R_drew)); exact HO_266002.out) hg hat); have n1_ := Aside0.mk (blk_grown (g := gb256) (pk BK256) hg (Kd.R_ne HO277.out BK256.out (by decide))); have n2_ := Aside0.mk (blk_grown (g := gb265) (pk BK265) hg (Kd.R_ne HO277.out BK265.out (by decide))); have n3_ := Aside0.mk (hb); have n4_ := Aside0.mk (ho); clear HO_266002; clear BK256; clear BK265; clear HB; clear HO277; have HO_266002 := n0_; have BK256 := n1_; have BK265 := n2_; have HB := n3_; have HO280 := n4_; clear n0_ n1_ n2_ n3_ n4_; clear ho hb hg hat) | (at_builtin; refine Kd.R_append_zeros k41 (w0 := w) w.heap.size rfl (.tmp 69) (.tmp 71) 33 3 41 (.agg #[(.string ⟨#[]⟩), (.string ⟨#[]⟩), (.int .i64 0)]) 40 rfl Tryd.underlying33 Tryd.underlying3 info41 rfl (by decide) (by omega) v279 y278 z41 (ji65 : Int) (fun k_ => some k_ ≠ (.slice Ao23 t261.length co23 : Value).ownBlock) rfl rfl (k41_mkM _ _ _ z41 ) ?aF ?aO (of_decide_eq_true (by first | (with_reducible assumption) | assumption)) ?aB ?aS ?aL ?_; (case aB => exact (by repeat (first | (with_reducible first | exact HB.out | apply below_alloc | apply pw_below_drewN | apply below_drew1 | refine below_set ?_ GE256.out | refine below_set ?_ GE265.out) | exact HB.out))); (case aF => exact (fun k_ hk => Kd.fresh' (Kd.R_lt (by (with_reducible repeat (first | apply Kd.R_alloc | apply Kd.R_drewN | apply Kd.R_drew)); exact HO_266002.out)) k_ hk)); (case aO => exact (by (with_reducible repeat (first | apply Kd.R_alloc | apply Kd.R_drewN | apply Kd.R_drew)); exact HO280.out)); (case aS => exact (below_size (by repeat (first | (with_reducible first | exact HB.out | apply below_alloc | apply pw_below_drewN | apply below_drew1 | refine below_set ?_ GE256.out | refine below_set ?_ GE265.out) | exact HB.out)))); (case aL => have := LMc67.out; omega); intro v282 w73 ho hb hg hat; rw [← Ny281.out] at ho; have n0_ := Aside0.mk (Kd.R_after (ok := (fun _ => True)) (by (with_reducible repeat (first | apply Kd.R_alloc | apply Kd.R_drewN | apply Kd.R_drew)); exact HO_266002.out) hg hat); have n1_ := Aside0.mk (blk_grown (g := gb256) (pk BK256) hg (Kd.R_ne HO280.out BK256.out (by decide))); have n2_ := Aside0.mk (blk_grown (g := gb265) (pk BK265) hg (Kd.R_ne HO280.out BK265.out (by decide))); have n3_ := Aside0.mk (hb); have n4_ := Aside0.mk (ho); clear HO_266002; clear BK256; clear BK265; clear HB; clear HO280; have HO_266002 := n0_; have BK256 := n1_; have BK265 := n2_; have HB := n3_; have HO283 := n4_; clear n0_ n1_ n2_ n3_ n4_; clear ho hb hg hat; obtain ⟨Ao74, co74, eo74⟩ := Kd.R_slice HO283.out; subst eo74; have hcz75_0 : w73.cell? ⟨gb265, 0, none⟩ = some (.string t259) := bc BK265 0; have hcz75_1 : w73.cell? ⟨gb265, 1, none⟩ = some (.string t260) := bc BK265 1; have hcz75_2 : w73.cell? ⟨gb265, 2, none⟩ = some (.slice Ao23 t261.length co23) := bc BK265 2; have hcz75_3 : w73.cell? ⟨gb265, 3, none⟩ = some (.int .i64 t264) := bc BK265 3; have hfz75_0 := blk_frozen BK265.out 0; have hfz75_1 := blk_frozen BK265.out 1; have hfz75_2 := blk_frozen BK265.out 2; have hfz75_3 := blk_frozen BK265.out 3))
                      go_meet
                      case rel => exact ⟨_, (t259), (t260), (y281), (t264), (.slice Ao74 y281.length co74), H', ⟨by have := HJ13.out; first | omega | exact Nat.le_refl _⟩, ⟨by (with_reducible repeat (first | apply Kd.R_alloc | apply Kd.R_drewN | apply Kd.R_drew)); exact Kd.R_mono (Kd.R_far (p := ⟨gb265, 2, none⟩) (Kd.R_types HO283.out BK265.out (by decide)) (fun _ hk => hk.2) (.slice Ao74 y281.length co74)) (fun _ hk => trivial)⟩, ⟨by (with_reducible repeat (first | refine blk_drewN ?_ _ | refine blk_drew ?_ | refine blk_alloc ?_ _)); refine blk_far ?_ NB256_265.out _; (with_reducible repeat (first | refine blk_drewN ?_ _ | refine blk_drew ?_ | refine blk_alloc ?_ _)); exact BK256.out⟩, ⟨by (with_reducible repeat (first | refine blk_drewN ?_ _ | refine blk_drew ?_ | refine blk_alloc ?_ _)); refine blk_put (cs := #[.string t259, .string t260, .slice Ao23 t261.length co23, .int .i64 t264]) ?_ 2 _ rfl; (with_reducible repeat (first | refine blk_drewN ?_ _ | refine blk_drew ?_ | refine blk_alloc ?_ _)); exact BK265.out⟩, ⟨by repeat (first | (with_reducible first | exact HB.out | apply below_alloc | apply pw_below_drewN | apply below_drew1 | refine below_set ?_ GE256.out | refine below_set ?_ GE265.out) | exact HB.out)⟩⟩
                    · rw [if_neg c63] at H
                      have c63b0 : ((ji40) == 3) = false := beq_eq_false_iff_ne.mpr c63
                      have c63b1 : ((ji40) != 3) = true := bne_iff_ne.mpr c63
                      by_cases c76 : (ji40) = 4
                      · rw [if_pos c76] at H
                        have c76b0 : ((ji40) == 4) = true := beq_iff_eq.mpr c76
                        have c76b1 : ((ji40) != 4) = false := bne_eq_false_iff_eq.mpr c76
                        clear c76
                        replace H := Option.bind_eq_some_iff.mp H
                        obtain ⟨t284, A770, H⟩ := H
                        replace H : (if 4 + t284.size ≤ 9223372036854775807 then (if 0 ≤ (ji39) then (if (ji39) < (t261.length : Int) then (damperlaw2_SpecRoutes.j1 kj13 t259 t260 (t261.set ((ji39) : Int).toNat (⟨(⟨#[119, 101, 98, 45]⟩ : ByteArray) ++ t284, (rd_T41 t261 (ji39)).f1, (rd_T41 t261 (ji39)).f2⟩ : S41)) t264) else (none)) else (none)) else (none)) = some r := H
                        have A77 := Aside0.mk A770
                        clear A770
                        by_cases c78 : 4 + t284.size ≤ 9223372036854775807
                        rotate_left
                        · rw [if_neg c78] at H
                          exact absurd H (by simp)
                        rw [if_pos c78] at H
                        have c78b0 := eq_true c78
                        have c78b1 : decide (4 + t284.size ≤ 9223372036854775807) = true := decide_eq_true c78
                        try have c78b2 : (9223372036854775807 < 4 + t284.size) = False := eq_false (Nat.not_lt.2 c78)
                        try (have c78b4 := c78; simp at c78b4; have c78b5 := eq_false (Nat.not_lt.2 c78b4))
                        by_cases c79 : 0 ≤ (ji39)
                        rotate_left
                        · rw [if_neg c79] at H
                          exact absurd H (by simp)
                        rw [if_pos c79] at H
                        have c79b0 : decide (0 ≤ (ji39)) = true := decide_eq_true c79
                        clear c79
                        by_cases c80 : (ji39) < (t261.length : Int)
                        rotate_left
                        · rw [if_neg c80] at H
                          exact absurd H (by simp)
                        rw [if_pos c80] at H
                        have c80b0 : decide ((ji39) < (t261.length : Int)) = true := decide_eq_true c80
                        clear c80
                        obtain ⟨y285, hy285⟩ : ∃ y_ : List (S41), y_ = (t261.set ((ji39) : Int).toNat (⟨(⟨#[119, 101, 98, 45]⟩ : ByteArray) ++ t284, (rd_T41 t261 (ji39)).f1, (rd_T41 t261 (ji39)).f2⟩ : S41)) := ⟨_, rfl⟩
                        replace H : (damperlaw2_SpecRoutes.j1 kj13 t259 t260 y285 t264) = some r := by first | (rw [hy285]; with_reducible exact H) | (have H2_ := (Option.bind_some _ _).symm.trans H; rw [hy285]; with_reducible exact H2_) | (have H2_ := (Option.bind_some _ _).symm.trans H; with_reducible exact H2_) | with_reducible exact H | (rw [hy285]; exact H) | exact H
                        have Ny285 := Aside0.mk hy285
                        clear hy285
                        have H' := Aside0.mk H
                        clear H
                        try go_wp2_with (first | (go_at_call 15; refine (damperlaw2_within.keep _ _ rfl (by first | decide | assumption | exact wi_ne (by assumption) | exact wi_ne' (by assumption) | omega) _).mono ?_; rintro e w' ⟨rfl, rfl⟩))
                        replace HO_266002 := Aside0.mk (Kd.R_drew HO_266002.out)
                        replace BK256 := Aside0.mk (blk_drew BK256.out)
                        replace BK265 := Aside0.mk (blk_drew BK265.out)
                        replace HB := Aside0.mk (below_drew1 HB.out)
                        refine start_ (n := 9) (S := fun w' => w'.cell? ⟨gb265, 0, none⟩ = some (.string t259) ∧ w'.cell? ⟨gb265, 1, none⟩ = some (.string t260) ∧ w'.cell? ⟨gb265, 2, none⟩ = some (.slice Ao23 t261.length co23) ∧ w'.cell? ⟨gb265, 3, none⟩ = some (.int .i64 t264)) (ds := [8]) #[false, false, false, false, false, false, false, false, false] (by kernel_rfl) rfl rfl ⟨bc BK265 0, bc BK265 1, bc BK265 2, bc BK265 3⟩ (fun hHeld => ?_); refine with_tabW damperlaw2_SpecRoutes.tab19 damperlaw2_SpecRoutes.bits19 (fun HT_ HW_ => ?_)
                        generalize wc.drew = w82 at HO_266002 BK256 BK265 HB hHeld ⊢
                        refine pure_ (i := 0) (N := some 76) (v := ?_) (a' := ?_) #[true, false, false, false, false, false, false, false, false] rfl rfl (any_of HT_.out (by kernel_rfl)) (fun _ _ _ h => h) (Or.inl ⟨by rfl, ?_⟩) ?_ ?_
                        rotate_left
                        · intro w'
                          go_simp
                          with_reducible rfl
                        rotate_left
                        · simp only [Act.put, List.setIfInBounds_toArray, List.set_cons_zero, List.set_cons_succ, i64_w, i32_w]
                          rfl
                        refine pure_ (i := 2) (N := some 78) (v := ?_) (a' := ?_) #[true, false, true, false, false, false, false, false, false] rfl rfl (any_of HT_.out (by kernel_rfl)) (fun _ _ _ h => h) (Or.inl ⟨by rfl, ?_⟩) ?_ ?_
                        rotate_left
                        · intro w'
                          go_simp
                          with_reducible rfl
                        rotate_left
                        · simp only [Act.put, List.setIfInBounds_toArray, List.set_cons_zero, List.set_cons_succ, i64_w, i32_w]
                          rfl
                        refine pure_ (i := 3) (N := some 79) (v := ?_) (a' := ?_) #[true, false, true, true, false, false, false, false, false] rfl rfl (any_of HT_.out (by kernel_rfl)) (fun _ _ _ h => h) (Or.inl ⟨by rfl, ?_⟩) ?_ ?_
                        rotate_left
                        · intro w'
                          go_simp
                          with_reducible rfl
                        rotate_left
                        · simp only [Act.put, List.setIfInBounds_toArray, List.set_cons_zero, List.set_cons_succ, i64_w, i32_w]
                          rfl
                        refine take_ (i := 1) (N := some 77) (v := ?_) (a' := ?_) #[true, true, true, true, false, false, false, false, false] rfl rfl (take_ofW HT_.out HW_.out (by kernel_rfl)) (fun _ _ _ h => h) (Or.inl ⟨by rfl, ?_⟩) hHeld ?_ ?_
                        rotate_left
                        · rintro w' ⟨s0, s1, s2, s3⟩
                          go_simp
                          with_reducible rfl
                        rotate_left
                        · simp only [Act.put, List.setIfInBounds_toArray, List.set_cons_zero, List.set_cons_succ, i64_w, i32_w]
                          rfl
                        refine one_ (i := 4) (N := some 80) #[true, true, true, true, true, false, false, false, false] rfl rfl (one_of HT_.out (by kernel_rfl)) (by decide) (fun K hK => ?_)
                        refine goes_ Tryd.func16 (by kernel_rfl) rfl #[.slice A7 l7.length c7] (by rfl) rfl rfl (by (try simp only [List.map_toArray, List.map_cons, List.map_nil]); first | done | rfl | (simp only [List.length_drop, List.length_take]; rfl)) ?_
                        with_reducible refine (damperlaw1_Text.calls kj13 _ _ l7 t284 _ ?side1 ?side2 A77.out).mono ?_
                        (case side1 => repeat (first | exact (Kd.C_below HR7.out HB.out) | (with_reducible refine Kd.C_alloc ?_ _) | (with_reducible refine Kd.C_drewN ?_ _) | (with_reducible refine Kd.C_drew ?_)))
                        (case side2 => exact HC7.out)
                        rintro e w83 ⟨rfl, hb⟩
                        refine ⟨_, rfl, ?_⟩
                        replace HO_266002 := Aside0.mk (Kd.R_below (by (with_reducible repeat (first | apply Kd.R_alloc | apply Kd.R_drewN | apply Kd.R_drew)); exact HO_266002.out) hb)
                        replace BK256 := Aside0.mk (blk_below (g := gb256) (pk BK256) hb)
                        replace BK265 := Aside0.mk (blk_below (g := gb265) (pk BK265) hb)
                        replace HB := Aside0.mk (below_step (by repeat (first | (with_reducible first | exact HB.out | apply below_alloc | apply pw_below_drewN | apply below_drew1 | refine below_set ?_ GE256.out | refine below_set ?_ GE265.out) | exact HB.out)) hb)
                        (try clear hb)
                        (try clear hb2)
                        (try clear hk)
                        (try clear hi)
                        have p81 : 0 ≤ ((ji39) : Int) := of_decide_eq_true (by first | (with_reducible assumption) | assumption)
                        have q81 : ((ji39) : Int) < ((t261.length : Int) : Int) := of_decide_eq_true (by first | (with_reducible assumption) | assumption)
                        obtain ⟨go81, co81, eo81, gb81, gl81, cl81, HG81⟩ := Kd.R_form HO_266002.out (by omega)
                        (first | cases eo81 | (injection eo81 with ea_ en_ ec_; (first | subst ea_ | (injection ea_ with ea_; subst ea_)); subst ec_; clear en_))
                        have GB81 := Aside0.mk gb81
                        have GG81 := Aside0.mk HG81
                        clear gb81 gl81 HG81
                        obtain ⟨ce81, hcl81, hM81, hcc81, hfr81⟩ := Kd.R_elem HO_266002.out z41 ((ji39) : Int) p81 q81
                        obtain rfl := k41_openM hM81
                        have hx81_0 : World.cell? _ ⟨go81, ((ji39) : Int).toNat * 3, none⟩ = some (.string ((rd_T41 t261 (ji39)).f0)) := hcc81 0 _ rfl
                        have hx81_1 : World.cell? _ ⟨go81, ((ji39) : Int).toNat * 3 + 1, none⟩ = some (.string ((rd_T41 t261 (ji39)).f1)) := hcc81 1 _ rfl
                        have hx81_2 : World.cell? _ ⟨go81, ((ji39) : Int).toNat * 3 + 2, none⟩ = some (.int .i64 ((rd_T41 t261 (ji39)).f2)) := hcc81 2 _ rfl
                        have hf81_0 : World.frozen? _ ⟨go81, ((ji39) : Int).toNat * 3, none⟩ = false := hfr81 0
                        have hf81_1 : World.frozen? _ ⟨go81, ((ji39) : Int).toNat * 3 + 1, none⟩ = false := hfr81 1
                        have hf81_2 : World.frozen? _ ⟨go81, ((ji39) : Int).toNat * 3 + 2, none⟩ = false := hfr81 2
                        clear hcl81 hcc81 hfr81 hM81
                        replace p81 := eq_true p81
                        replace q81 := eq_true q81
                        obtain ⟨ce84, hcl84, hM84, hcc84, hfr84⟩ := Kd.R_elem HO_266002.out z41 ((ji39) : Int) (of_decide_eq_true (by first | (with_reducible assumption) | assumption)) (by have h_ : ((ji39) : Int) < ((t261.length : Int) : Int) := of_decide_eq_true (by first | (with_reducible assumption) | assumption); first | exact h_ | (have e_ := (Kd.R_reads' HO_266002.out).1; omega) | simpa using h_)
                        obtain rfl := k41_openM hM84
                        have HP84 := (Kd.R_seg HO_266002.out ((ji39) : Int) (of_decide_eq_true (by first | (with_reducible assumption) | assumption)) (by have h_ : ((ji39) : Int) < ((t261.length : Int) : Int) := of_decide_eq_true (by first | (with_reducible assumption) | assumption); first | exact h_ | (have e_ := (Kd.R_reads' HO_266002.out).1; omega) | simpa using h_) (seg := [.string ((⟨#[119, 101, 98, 45]⟩ : ByteArray) ++ t284)]) (j := 0) hcl84 hcc84 (show 1 ≤ 3 from by decide) (x' := (⟨(⟨#[119, 101, 98, 45]⟩ : ByteArray) ++ t284, (rd_T41 t261 (ji39)).f1, (rd_T41 t261 (ji39)).f2⟩ : S41)) (k41_mkM _ _ _ (⟨(⟨#[119, 101, 98, 45]⟩ : ByteArray) ++ t284, (rd_T41 t261 (ji39)).f1, (rd_T41 t261 (ji39)).f2⟩ : S41) ) (fun _ hk => hk)).1
                        rw [← Ny285.out] at HP84
                        have HQ84 := Aside0.mk HP84
                        clear hcl84 hcc84 hfr84 hM84 HP84
                        refine hK.out _ _ ⟨bc BK265 0, bc BK265 1, bc BK265 2, bc BK265 3⟩ (fun hHeld => ?_)
                        clear hK K
                        refine norm_ (a' := ?_) ?_ ?_
                        rotate_left
                        · show Act.put _ (some 80) _ = _
                          simp only [Act.put, List.setIfInBounds_toArray, List.set_cons_zero, List.set_cons_succ, i64_w, i32_w]
                          rfl
                        refine pure_ (i := 5) (N := some 81) (v := ?_) (a' := ?_) #[true, true, true, true, true, true, false, false, false] rfl rfl (any_of HT_.out (by kernel_rfl)) (fun _ _ _ h => h) (Or.inl ⟨by rfl, ?_⟩) ?_ ?_
                        rotate_left
                        · intro w'
                          go_simp
                          with_reducible rfl
                        rotate_left
                        · simp only [Act.put, List.setIfInBounds_toArray, List.set_cons_zero, List.set_cons_succ, i64_w, i32_w]
                          rfl
                        refine pure_ (i := 6) (N := some 82) (v := ?_) (a' := ?_) #[true, true, true, true, true, true, true, false, false] rfl rfl (any_of HT_.out (by kernel_rfl)) (fun _ _ _ h => h) (Or.inl ⟨by rfl, ?_⟩) ?_ ?_
                        rotate_left
                        · intro w'
                          go_simp
                          with_reducible rfl
                        rotate_left
                        · simp only [Act.put, List.setIfInBounds_toArray, List.set_cons_zero, List.set_cons_succ, i64_w, i32_w]
                          rfl
                        refine pure_ (i := 7) (N := some 83) (v := ?_) (a' := ?_) #[true, true, true, true, true, true, true, true, false] rfl rfl (any_of HT_.out (by kernel_rfl)) (fun _ _ _ h => h) (Or.inl ⟨by rfl, ?_⟩) ?_ ?_
                        rotate_left
                        · intro w'
                          go_simp
                          with_reducible rfl
                        rotate_left
                        · simp only [Act.put, List.setIfInBounds_toArray, List.set_cons_zero, List.set_cons_succ, i64_w, i32_w]
                          rfl
                        refine last_ (i := 8) (N := none) #[true, true, true, true, true, true, true, true, true] rfl rfl (one_of HT_.out (by kernel_rfl)) (by decide) (fun K hK => ?_)
                        with_reducible_and_instances refine skip_ (w1 := ?_) ?hw_ ?hN_ ?_ ?_
                        (case hw_ => rfl)
                        (case hN_ => rfl)
                        rotate_left
                        · go_simp
                          rfl
                        refine hK.out _ _ ?_
                        clear hK K
                        refine done_ (done_of HT_.out (by kernel_rfl)) ?_
                        try go_wp2_with (first | (go_at_call 15; refine (damperlaw2_within.keep _ _ rfl (by first | decide | assumption | exact wi_ne (by assumption) | exact wi_ne' (by assumption) | omega) _).mono ?_; rintro e w' ⟨rfl, rfl⟩))
                        go_meet
                        case rel => exact ⟨_, (t259), (t260), (y285), (t264), (.slice (some ⟨go81, 0, none⟩) t261.length co23), H', ⟨by have := HJ13.out; first | omega | exact Nat.le_refl _⟩, ⟨by (with_reducible repeat (first | apply Kd.R_alloc | apply Kd.R_drewN | apply Kd.R_drew)); exact HQ84.out⟩, ⟨by (with_reducible repeat (first | refine blk_drewN ?_ _ | refine blk_drew ?_ | refine blk_alloc ?_ _)); refine blk_far ?_ (by have h_ := Kd.R_ne HO_266002.out BK256.out (by decide); intro e_; exact h_ (by rw [e_]; rfl)) _; (with_reducible repeat (first | refine blk_drewN ?_ _ | refine blk_drew ?_ | refine blk_alloc ?_ _)); exact BK256.out⟩, ⟨by (with_reducible repeat (first | refine blk_drewN ?_ _ | refine blk_drew ?_ | refine blk_alloc ?_ _)); refine blk_far ?_ (by have h_ := Kd.R_ne HO_266002.out BK265.out (by decide); intro e_; exact h_ (by rw [e_]; rfl)) _; (with_reducible repeat (first | refine blk_drewN ?_ _ | refine blk_drew ?_ | refine blk_alloc ?_ _)); exact BK265.out⟩, ⟨by repeat (first | (with_reducible first | exact HB.out | apply below_alloc | apply pw_below_drewN | apply below_drew1 | refine below_set ?_ GB81.out | refine below_set ?_ GE256.out | refine below_set ?_ GE265.out) | exact HB.out)⟩⟩
                      · rw [if_neg c76] at H
                        have c76b0 : ((ji40) == 4) = false := beq_eq_false_iff_ne.mpr c76
                        have c76b1 : ((ji40) != 4) = true := bne_iff_ne.mpr c76
                        by_cases c85 : (ji40) = 5
                        · rw [if_pos c85] at H
                          have c85b0 : ((ji40) == 5) = true := beq_iff_eq.mpr c85
                          have c85b1 : ((ji40) != 5) = false := bne_eq_false_iff_eq.mpr c85
                          clear c85
                          replace H := Option.bind_eq_some_iff.mp H
                          obtain ⟨t286, A860, H⟩ := H
                          replace H : (if 0 ≤ (ji39) then (if (ji39) < (t261.length : Int) then (damperlaw2_SpecRoutes.j1 kj13 t259 t260 (t261.set ((ji39) : Int).toNat (⟨(rd_T41 t261 (ji39)).f0, t286, (rd_T41 t261 (ji39)).f2⟩ : S41)) t264) else (none)) else (none)) = some r := H
                          have A86 := Aside0.mk A860
                          clear A860
                          by_cases c87 : 0 ≤ (ji39)
                          rotate_left
                          · rw [if_neg c87] at H
                            exact absurd H (by simp)
                          rw [if_pos c87] at H
                          have c87b0 : decide (0 ≤ (ji39)) = true := decide_eq_true c87
                          clear c87
                          by_cases c88 : (ji39) < (t261.length : Int)
                          rotate_left
                          · rw [if_neg c88] at H
                            exact absurd H (by simp)
                          rw [if_pos c88] at H
                          have c88b0 : decide ((ji39) < (t261.length : Int)) = true := decide_eq_true c88
                          clear c88
                          obtain ⟨y287, hy287⟩ : ∃ y_ : List (S41), y_ = (t261.set ((ji39) : Int).toNat (⟨(rd_T41 t261 (ji39)).f0, t286, (rd_T41 t261 (ji39)).f2⟩ : S41)) := ⟨_, rfl⟩
                          replace H : (damperlaw2_SpecRoutes.j1 kj13 t259 t260 y287 t264) = some r := by first | (rw [hy287]; with_reducible exact H) | (have H2_ := (Option.bind_some _ _).symm.trans H; rw [hy287]; with_reducible exact H2_) | (have H2_ := (Option.bind_some _ _).symm.trans H; with_reducible exact H2_) | with_reducible exact H | (rw [hy287]; exact H) | exact H
                          have Ny287 := Aside0.mk hy287
                          clear hy287
                          have H' := Aside0.mk H
                          clear H
                          try go_wp2_with (first | (go_at_call 15; refine (damperlaw2_within.keep _ _ rfl (by first | decide | assumption | exact wi_ne (by assumption) | exact wi_ne' (by assumption) | omega) _).mono ?_; rintro e w' ⟨rfl, rfl⟩))
                          replace HO_266002 := Aside0.mk (Kd.R_drew HO_266002.out)
                          replace BK256 := Aside0.mk (blk_drew BK256.out)
                          replace BK265 := Aside0.mk (blk_drew BK265.out)
                          replace HB := Aside0.mk (below_drew1 HB.out)
                          refine start_ (n := 8) (S := fun w' => w'.cell? ⟨gb265, 0, none⟩ = some (.string t259) ∧ w'.cell? ⟨gb265, 1, none⟩ = some (.string t260) ∧ w'.cell? ⟨gb265, 2, none⟩ = some (.slice Ao23 t261.length co23) ∧ w'.cell? ⟨gb265, 3, none⟩ = some (.int .i64 t264)) (ds := [7]) #[false, false, false, false, false, false, false, false] (by kernel_rfl) rfl rfl ⟨bc BK265 0, bc BK265 1, bc BK265 2, bc BK265 3⟩ (fun hHeld => ?_); refine with_tabW damperlaw2_SpecRoutes.tab21 damperlaw2_SpecRoutes.bits21 (fun HT_ HW_ => ?_)
                          generalize wc.drew = w90 at HO_266002 BK256 BK265 HB hHeld ⊢
                          refine pure_ (i := 0) (N := some 86) (v := ?_) (a' := ?_) #[true, false, false, false, false, false, false, false] rfl rfl (any_of HT_.out (by kernel_rfl)) (fun _ _ _ h => h) (Or.inl ⟨by rfl, ?_⟩) ?_ ?_
                          rotate_left
                          · intro w'
                            go_simp
                            with_reducible rfl
                          rotate_left
                          · simp only [Act.put, List.setIfInBounds_toArray, List.set_cons_zero, List.set_cons_succ, i64_w, i32_w]
                            rfl
                          refine pure_ (i := 2) (N := some 88) (v := ?_) (a' := ?_) #[true, false, true, false, false, false, false, false] rfl rfl (any_of HT_.out (by kernel_rfl)) (fun _ _ _ h => h) (Or.inl ⟨by rfl, ?_⟩) ?_ ?_
                          rotate_left
                          · intro w'
                            go_simp
                            with_reducible rfl
                          rotate_left
                          · simp only [Act.put, List.setIfInBounds_toArray, List.set_cons_zero, List.set_cons_succ, i64_w, i32_w]
                            rfl
                          refine pure_ (i := 3) (N := some 89) (v := ?_) (a' := ?_) #[true, false, true, true, false, false, false, false] rfl rfl (any_of HT_.out (by kernel_rfl)) (fun _ _ _ h => h) (Or.inl ⟨by rfl, ?_⟩) ?_ ?_
                          rotate_left
                          · intro w'
                            go_simp
                            with_reducible rfl
                          rotate_left
                          · simp only [Act.put, List.setIfInBounds_toArray, List.set_cons_zero, List.set_cons_succ, i64_w, i32_w]
                            rfl
                          refine take_ (i := 1) (N := some 87) (v := ?_) (a' := ?_) #[true, true, true, true, false, false, false, false] rfl rfl (take_ofW HT_.out HW_.out (by kernel_rfl)) (fun _ _ _ h => h) (Or.inl ⟨by rfl, ?_⟩) hHeld ?_ ?_
                          rotate_left
                          · rintro w' ⟨s0, s1, s2, s3⟩
                            go_simp
                            with_reducible rfl
                          rotate_left
                          · simp only [Act.put, List.setIfInBounds_toArray, List.set_cons_zero, List.set_cons_succ, i64_w, i32_w]
                            rfl
                          refine one_ (i := 4) (N := some 90) #[true, true, true, true, true, false, false, false] rfl rfl (one_of HT_.out (by kernel_rfl)) (by decide) (fun K hK => ?_)
                          refine goes_ Tryd.func16 (by kernel_rfl) rfl #[.slice A7 l7.length c7] (by rfl) rfl rfl (by (try simp only [List.map_toArray, List.map_cons, List.map_nil]); first | done | rfl | (simp only [List.length_drop, List.length_take]; rfl)) ?_
                          with_reducible refine (damperlaw1_Text.calls kj13 _ _ l7 t286 _ ?side1 ?side2 A86.out).mono ?_
                          (case side1 => repeat (first | exact (Kd.C_below HR7.out HB.out) | (with_reducible refine Kd.C_alloc ?_ _) | (with_reducible refine Kd.C_drewN ?_ _) | (with_reducible refine Kd.C_drew ?_)))
                          (case side2 => exact HC7.out)
                          rintro e w91 ⟨rfl, hb⟩
                          refine ⟨_, rfl, ?_⟩
                          replace HO_266002 := Aside0.mk (Kd.R_below (by (with_reducible repeat (first | apply Kd.R_alloc | apply Kd.R_drewN | apply Kd.R_drew)); exact HO_266002.out) hb)
                          replace BK256 := Aside0.mk (blk_below (g := gb256) (pk BK256) hb)
                          replace BK265 := Aside0.mk (blk_below (g := gb265) (pk BK265) hb)
                          replace HB := Aside0.mk (below_step (by repeat (first | (with_reducible first | exact HB.out | apply below_alloc | apply pw_below_drewN | apply below_drew1 | refine below_set ?_ GE256.out | refine below_set ?_ GE265.out) | exact HB.out)) hb)
                          (try clear hb)
                          (try clear hb2)
                          (try clear hk)
                          (try clear hi)
                          have p89 : 0 ≤ ((ji39) : Int) := of_decide_eq_true (by first | (with_reducible assumption) | assumption)
                          have q89 : ((ji39) : Int) < ((t261.length : Int) : Int) := of_decide_eq_true (by first | (with_reducible assumption) | assumption)
                          obtain ⟨go89, co89, eo89, gb89, gl89, cl89, HG89⟩ := Kd.R_form HO_266002.out (by omega)
                          (first | cases eo89 | (injection eo89 with ea_ en_ ec_; (first | subst ea_ | (injection ea_ with ea_; subst ea_)); subst ec_; clear en_))
                          have GB89 := Aside0.mk gb89
                          have GG89 := Aside0.mk HG89
                          clear gb89 gl89 HG89
                          obtain ⟨ce89, hcl89, hM89, hcc89, hfr89⟩ := Kd.R_elem HO_266002.out z41 ((ji39) : Int) p89 q89
                          obtain rfl := k41_openM hM89
                          have hx89_0 : World.cell? _ ⟨go89, ((ji39) : Int).toNat * 3, none⟩ = some (.string ((rd_T41 t261 (ji39)).f0)) := hcc89 0 _ rfl
                          have hx89_1 : World.cell? _ ⟨go89, ((ji39) : Int).toNat * 3 + 1, none⟩ = some (.string ((rd_T41 t261 (ji39)).f1)) := hcc89 1 _ rfl
                          have hx89_2 : World.cell? _ ⟨go89, ((ji39) : Int).toNat * 3 + 2, none⟩ = some (.int .i64 ((rd_T41 t261 (ji39)).f2)) := hcc89 2 _ rfl
                          have hf89_0 : World.frozen? _ ⟨go89, ((ji39) : Int).toNat * 3, none⟩ = false := hfr89 0
                          have hf89_1 : World.frozen? _ ⟨go89, ((ji39) : Int).toNat * 3 + 1, none⟩ = false := hfr89 1
                          have hf89_2 : World.frozen? _ ⟨go89, ((ji39) : Int).toNat * 3 + 2, none⟩ = false := hfr89 2
                          clear hcl89 hcc89 hfr89 hM89
                          replace p89 := eq_true p89
                          replace q89 := eq_true q89
                          obtain ⟨ce92, hcl92, hM92, hcc92, hfr92⟩ := Kd.R_elem HO_266002.out z41 ((ji39) : Int) (of_decide_eq_true (by first | (with_reducible assumption) | assumption)) (by have h_ : ((ji39) : Int) < ((t261.length : Int) : Int) := of_decide_eq_true (by first | (with_reducible assumption) | assumption); first | exact h_ | (have e_ := (Kd.R_reads' HO_266002.out).1; omega) | simpa using h_)
                          obtain rfl := k41_openM hM92
                          have HP92 := (Kd.R_seg HO_266002.out ((ji39) : Int) (of_decide_eq_true (by first | (with_reducible assumption) | assumption)) (by have h_ : ((ji39) : Int) < ((t261.length : Int) : Int) := of_decide_eq_true (by first | (with_reducible assumption) | assumption); first | exact h_ | (have e_ := (Kd.R_reads' HO_266002.out).1; omega) | simpa using h_) (seg := [.string t286]) (j := 1) hcl92 hcc92 (show 2 ≤ 3 from by decide) (x' := (⟨(rd_T41 t261 (ji39)).f0, t286, (rd_T41 t261 (ji39)).f2⟩ : S41)) (k41_mkM _ _ _ (⟨(rd_T41 t261 (ji39)).f0, t286, (rd_T41 t261 (ji39)).f2⟩ : S41) ) (fun _ hk => hk)).1
                          rw [← Ny287.out] at HP92
                          have HQ92 := Aside0.mk HP92
                          clear hcl92 hcc92 hfr92 hM92 HP92
                          refine hK.out _ _ ⟨bc BK265 0, bc BK265 1, bc BK265 2, bc BK265 3⟩ (fun hHeld => ?_)
                          clear hK K
                          refine norm_ (a' := ?_) ?_ ?_
                          rotate_left
                          · show Act.put _ (some 90) _ = _
                            simp only [Act.put, List.setIfInBounds_toArray, List.set_cons_zero, List.set_cons_succ, i64_w, i32_w]
                            rfl
                          refine pure_ (i := 5) (N := some 91) (v := ?_) (a' := ?_) #[true, true, true, true, true, true, false, false] rfl rfl (any_of HT_.out (by kernel_rfl)) (fun _ _ _ h => h) (Or.inl ⟨by rfl, ?_⟩) ?_ ?_
                          rotate_left
                          · intro w'
                            go_simp
                            with_reducible rfl
                          rotate_left
                          · simp only [Act.put, List.setIfInBounds_toArray, List.set_cons_zero, List.set_cons_succ, i64_w, i32_w]
                            rfl
                          refine pure_ (i := 6) (N := some 92) (v := ?_) (a' := ?_) #[true, true, true, true, true, true, true, false] rfl rfl (any_of HT_.out (by kernel_rfl)) (fun _ _ _ h => h) (Or.inl ⟨by rfl, ?_⟩) ?_ ?_
                          rotate_left
                          · intro w'
                            go_simp
                            with_reducible rfl
                          rotate_left
                          · simp only [Act.put, List.setIfInBounds_toArray, List.set_cons_zero, List.set_cons_succ, i64_w, i32_w]
                            rfl
                          refine last_ (i := 7) (N := none) #[true, true, true, true, true, true, true, true] rfl rfl (one_of HT_.out (by kernel_rfl)) (by decide) (fun K hK => ?_)
                          with_reducible_and_instances refine skip_ (w1 := ?_) ?hw_ ?hN_ ?_ ?_
                          (case hw_ => rfl)
                          (case hN_ => rfl)
                          rotate_left
                          · go_simp
                            rfl
                          refine hK.out _ _ ?_
                          clear hK K
                          refine done_ (done_of HT_.out (by kernel_rfl)) ?_
                          try go_wp2_with (first | (go_at_call 15; refine (damperlaw2_within.keep _ _ rfl (by first | decide | assumption | exact wi_ne (by assumption) | exact wi_ne' (by assumption) | omega) _).mono ?_; rintro e w' ⟨rfl, rfl⟩))
                          go_meet
                          case rel => exact ⟨_, (t259), (t260), (y287), (t264), (.slice (some ⟨go89, 0, none⟩) t261.length co23), H', ⟨by have := HJ13.out; first | omega | exact Nat.le_refl _⟩, ⟨by (with_reducible repeat (first | apply Kd.R_alloc | apply Kd.R_drewN | apply Kd.R_drew)); exact HQ92.out⟩, ⟨by (with_reducible repeat (first | refine blk_drewN ?_ _ | refine blk_drew ?_ | refine blk_alloc ?_ _)); refine blk_far ?_ (by have h_ := Kd.R_ne HO_266002.out BK256.out (by decide); intro e_; exact h_ (by rw [e_]; rfl)) _; (with_reducible repeat (first | refine blk_drewN ?_ _ | refine blk_drew ?_ | refine blk_alloc ?_ _)); exact BK256.out⟩, ⟨by (with_reducible repeat (first | refine blk_drewN ?_ _ | refine blk_drew ?_ | refine blk_alloc ?_ _)); refine blk_far ?_ (by have h_ := Kd.R_ne HO_266002.out BK265.out (by decide); intro e_; exact h_ (by rw [e_]; rfl)) _; (with_reducible repeat (first | refine blk_drewN ?_ _ | refine blk_drew ?_ | refine blk_alloc ?_ _)); exact BK265.out⟩, ⟨by repeat (first | (with_reducible first | exact HB.out | apply below_alloc | apply pw_below_drewN | apply below_drew1 | refine below_set ?_ GB89.out | refine below_set ?_ GE256.out | refine below_set ?_ GE265.out) | exact HB.out)⟩⟩
                        · rw [if_neg c85] at H
                          have c85b0 : ((ji40) == 5) = false := beq_eq_false_iff_ne.mpr c85
                          have c85b1 : ((ji40) != 5) = true := bne_iff_ne.mpr c85
                          by_cases c93 : (ji40) = 6
                          · rw [if_pos c93] at H
                            have c93b0 : ((ji40) == 6) = true := beq_iff_eq.mpr c93
                            have c93b1 : ((ji40) != 6) = false := bne_eq_false_iff_eq.mpr c93
                            clear c93
                            by_cases c94 : 0 ≤ (ji39)
                            rotate_left
                            · rw [if_neg c94] at H
                              exact absurd H (by simp)
                            rw [if_pos c94] at H
                            have c94b0 : decide (0 ≤ (ji39)) = true := decide_eq_true c94
                            clear c94
                            by_cases c95 : (ji39) < (t261.length : Int)
                            rotate_left
                            · rw [if_neg c95] at H
                              exact absurd H (by simp)
                            rw [if_pos c95] at H
                            have c95b0 : decide ((ji39) < (t261.length : Int)) = true := decide_eq_true c95
                            clear c95
                            obtain ⟨y289, hy289⟩ : ∃ y_ : List Int, y_ = (([(-1), 101, wrap64 (((rd_T41 t261 (ji39)).f2) + 1), a6] : List Int)) := ⟨_, rfl⟩
                            replace H : (if 0 ≤ (wi a6 4) then (if (wi a6 4) < (y289.length : Int) then (damperlaw2_SpecRoutes.j1 kj13 t259 t260 (t261.set ((ji39) : Int).toNat (⟨(rd_T41 t261 (ji39)).f0, (rd_T41 t261 (ji39)).f1, rd y289 (wi a6 4)⟩ : S41)) t264) else (none)) else (none)) = some r := by first | (rw [hy289]; with_reducible exact H) | (have H2_ := (Option.bind_some _ _).symm.trans H; rw [hy289]; with_reducible exact H2_) | (have H2_ := (Option.bind_some _ _).symm.trans H; with_reducible exact H2_) | with_reducible exact H | (rw [hy289]; exact H) | exact H
                            have Ny289 := Aside0.mk hy289
                            clear hy289
                            obtain ⟨ji96, hji96⟩ : ∃ j_ : Int, (wi a6 4) = j_ := ⟨_, rfl⟩
                            replace H : (if 0 ≤ (ji96) then (if (ji96) < (y289.length : Int) then (damperlaw2_SpecRoutes.j1 kj13 t259 t260 (t261.set ((ji39) : Int).toNat (⟨(rd_T41 t261 (ji39)).f0, (rd_T41 t261 (ji39)).f1, rd y289 (ji96)⟩ : S41)) t264) else (none)) else (none)) = some r := by first | (rw [hji96] at H; exact H) | (simp only [hji96] at H ⊢; exact H)
                            by_cases c97 : 0 ≤ (ji96)
                            rotate_left
                            · rw [if_neg c97] at H
                              exact absurd H (by simp)
                            rw [if_pos c97] at H
                            have c97b0 : decide (0 ≤ (ji96)) = true := decide_eq_true c97
                            clear c97
                            by_cases c98 : (ji96) < (y289.length : Int)
                            rotate_left
                            · rw [if_neg c98] at H
                              exact absurd H (by simp)
                            rw [if_pos c98] at H
                            have c98b0 : decide ((ji96) < (y289.length : Int)) = true := decide_eq_true c98
                            clear c98
                            obtain ⟨y293, hy293⟩ : ∃ y_ : List (S41), y_ = (t261.set ((ji39) : Int).toNat (⟨(rd_T41 t261 (ji39)).f0, (rd_T41 t261 (ji39)).f1, rd y289 (ji96)⟩ : S41)) := ⟨_, rfl⟩
                            replace H : (damperlaw2_SpecRoutes.j1 kj13 t259 t260 y293 t264) = some r := by first | (rw [hy293]; with_reducible exact H) | (have H2_ := (Option.bind_some _ _).symm.trans H; rw [hy293]; with_reducible exact H2_) | (have H2_ := (Option.bind_some _ _).symm.trans H; with_reducible exact H2_) | with_reducible exact H | (rw [hy293]; exact H) | exact H
                            have Ny293 := Aside0.mk hy293
                            clear hy293
                            have H' := Aside0.mk H
                            clear H
                            try go_wp2_with (first | (go_at_call 15; refine (damperlaw2_within.keep _ _ rfl (by first | decide | assumption | exact wi_ne (by assumption) | exact wi_ne' (by assumption) | omega) _).mono ?_; rintro e w' ⟨rfl, rfl⟩))
                            have pi292 : (0 ≤ ((ji96) : Int)) = True := eq_true (of_decide_eq_true (by first | (with_reducible assumption) | assumption))
                            have qi292 : ((ji96) < (y289.length : Int)) = True := eq_true (of_decide_eq_true (by first | (with_reducible assumption) | assumption))
                            replace HO_266002 := Aside0.mk (Kd.R_drew HO_266002.out)
                            replace BK256 := Aside0.mk (blk_drew BK256.out)
                            replace BK265 := Aside0.mk (blk_drew BK265.out)
                            replace HB := Aside0.mk (below_drew1 HB.out)
                            have p288 : 0 ≤ ((ji39) : Int) := of_decide_eq_true (by first | (with_reducible assumption) | assumption)
                            have q288 : (ji39) < (t261.length : Int) := of_decide_eq_true (by first | (with_reducible assumption) | assumption)
                            obtain ⟨ad288, e288, hx288_0, hx288_1, hx288_2⟩ := at_T41 (Kd.R_reads' HO_266002.out).2.2 (ji39) p288 q288
                            cases e288
                            replace p288 := eq_true p288
                            replace q288 := eq_true q288
                            refine start_ (n := 19) (S := fun w' => w'.cell? ⟨gb265, 0, none⟩ = some (.string t259) ∧ w'.cell? ⟨gb265, 1, none⟩ = some (.string t260) ∧ w'.cell? ⟨gb265, 2, none⟩ = some (.slice (some ad288) t261.length co23) ∧ w'.cell? ⟨gb265, 3, none⟩ = some (.int .i64 t264) ∧ w'.cell? (ad288.add (((ji39)).toNat * 3)) = some (.string ((rd_T41 t261 (ji39)).f0)) ∧ w'.cell? ⟨(ad288.add (((ji39)).toNat * 3)).block, (ad288.add (((ji39)).toNat * 3)).off + 1, none⟩ = some (.string ((rd_T41 t261 (ji39)).f1)) ∧ w'.cell? ⟨(ad288.add (((ji39)).toNat * 3)).block, (ad288.add (((ji39)).toNat * 3)).off + 2, none⟩ = some (.int .i64 ((rd_T41 t261 (ji39)).f2))) (ds := [18]) #[false, false, false, false, false, false, false, false, false, false, false, false, false, false, false, false, false, false, false] (by kernel_rfl) rfl rfl ⟨bc BK265 0, bc BK265 1, bc BK265 2, bc BK265 3, hx288_0, hx288_1, hx288_2⟩ (fun hHeld => ?_); refine with_tabW damperlaw2_SpecRoutes.tab23 damperlaw2_SpecRoutes.bits23 (fun HT_ HW_ => ?_)
                            generalize wc.drew = w100 at HO_266002 BK256 BK265 HB hx288_0 hx288_1 hx288_2 hHeld ⊢
                            refine pure_ (i := 0) (N := some 95) (v := ?_) (a' := ?_) #[true, false, false, false, false, false, false, false, false, false, false, false, false, false, false, false, false, false, false] rfl rfl (any_of HT_.out (by kernel_rfl)) (fun _ _ _ h => h) (Or.inl ⟨by rfl, ?_⟩) ?_ ?_
                            rotate_left
                            · intro w'
                              go_simp
                              with_reducible rfl
                            rotate_left
                            · simp only [Act.put, List.setIfInBounds_toArray, List.set_cons_zero, List.set_cons_succ, i64_w, i32_w]
                              rfl
                            refine pure_ (i := 2) (N := some 97) (v := ?_) (a' := ?_) #[true, false, true, false, false, false, false, false, false, false, false, false, false, false, false, false, false, false, false] rfl rfl (any_of HT_.out (by kernel_rfl)) (fun _ _ _ h => h) (Or.inl ⟨by rfl, ?_⟩) ?_ ?_
                            rotate_left
                            · intro w'
                              go_simp
                              with_reducible rfl
                            rotate_left
                            · simp only [Act.put, List.setIfInBounds_toArray, List.set_cons_zero, List.set_cons_succ, i64_w, i32_w]
                              rfl
                            refine pure_ (i := 3) (N := some 98) (v := ?_) (a' := ?_) #[true, false, true, true, false, false, false, false, false, false, false, false, false, false, false, false, false, false, false] rfl rfl (any_of HT_.out (by kernel_rfl)) (fun _ _ _ h => h) (Or.inl ⟨by rfl, ?_⟩) ?_ ?_
                            rotate_left
                            · intro w'
                              go_simp
                              with_reducible rfl
                            rotate_left
                            · simp only [Act.put, List.setIfInBounds_toArray, List.set_cons_zero, List.set_cons_succ, i64_w, i32_w]
                              rfl
                            refine pure_ (i := 5) (N := some 100) (v := ?_) (a' := ?_) #[true, false, true, true, false, true, false, false, false, false, false, false, false, false, false, false, false, false, false] rfl rfl (any_of HT_.out (by kernel_rfl)) (fun _ _ _ h => h) (Or.inl ⟨by rfl, ?_⟩) ?_ ?_
                            rotate_left
                            · intro w'
                              go_simp
                              with_reducible rfl
                            rotate_left
                            · simp only [Act.put, List.setIfInBounds_toArray, List.set_cons_zero, List.set_cons_succ, i64_w, i32_w]
                              rfl
                            refine pure_ (i := 10) (N := some 105) (v := ?_) (a' := ?_) #[true, false, true, true, false, true, false, false, false, false, true, false, false, false, false, false, false, false, false] rfl rfl (any_of HT_.out (by kernel_rfl)) (fun _ _ _ h => h) (Or.inl ⟨by rfl, ?_⟩) ?_ ?_
                            rotate_left
                            · intro w'
                              go_simp
                              with_reducible rfl
                            rotate_left
                            · simp only [Act.put, List.setIfInBounds_toArray, List.set_cons_zero, List.set_cons_succ, i64_w, i32_w]
                              rfl
                            refine pure_ (i := 12) (N := some 107) (v := ?_) (a' := ?_) #[true, false, true, true, false, true, false, false, false, false, true, false, true, false, false, false, false, false, false] rfl rfl (any_of HT_.out (by kernel_rfl)) (fun _ _ _ h => h) (Or.inl ⟨by rfl, ?_⟩) ?_ ?_
                            rotate_left
                            · intro w'
                              go_simp
                              with_reducible rfl
                            rotate_left
                            · simp only [Act.put, List.setIfInBounds_toArray, List.set_cons_zero, List.set_cons_succ, i64_w, i32_w]
                              rfl
                            refine callp_ (i := 13) (N := some 108) (a' := ?a7_) #[true, false, true, true, false, true, false, false, false, false, true, false, true, true, false, false, false, false, false] rfl rfl (by kernel_rfl) (fun _ _ _ h => h) (by rfl) Tryd.func15 (by kernel_rfl) rfl rfl (by (try simp only [List.map_toArray, List.map_cons, List.map_nil]); rfl) (damperlaw2_within.same _ _ (r := ?jj7_) ?hj7_ (by first | decide | assumption | exact wi_ne (by assumption) | exact wi_ne' (by assumption) | omega)) ?ha7_ ?h7_
                            (case hj7_ => (try simp only [i64_w, i32_w]); first | assumption | (go_simp; rfl))
                            (case ha7_ => simp only [Act.put, List.setIfInBounds_toArray, List.set_cons_zero, List.set_cons_succ, i64_w, i32_w]; rfl)
                            refine take_ (i := 1) (N := some 96) (v := ?_) (a' := ?_) #[true, true, true, true, false, true, false, false, false, false, true, false, true, true, false, false, false, false, false] rfl rfl (take_ofW HT_.out HW_.out (by kernel_rfl)) (fun _ _ _ h => h) (Or.inl ⟨by rfl, ?_⟩) hHeld ?_ ?_
                            rotate_left
                            · rintro w' ⟨s0, s1, s2, s3, s4, s5, s6⟩
                              go_simp
                              with_reducible rfl
                            rotate_left
                            · simp only [Act.put, List.setIfInBounds_toArray, List.set_cons_zero, List.set_cons_succ, i64_w, i32_w]
                              rfl
                            refine take_ (i := 4) (N := some 99) (v := ?_) (a' := ?_) #[true, true, true, true, true, true, false, false, false, false, true, false, true, true, false, false, false, false, false] rfl rfl (take_ofW HT_.out HW_.out (by kernel_rfl)) (fun _ _ _ h => h) (Or.inl ⟨by rfl, ?_⟩) hHeld ?_ ?_
                            rotate_left
                            · rintro w' ⟨s0, s1, s2, s3, s4, s5, s6⟩
                              go_simp
                              with_reducible rfl
                            rotate_left
                            · simp only [Act.put, List.setIfInBounds_toArray, List.set_cons_zero, List.set_cons_succ, i64_w, i32_w]
                              rfl
                            refine pure_ (i := 6) (N := some 101) (v := ?_) (a' := ?_) #[true, true, true, true, true, true, true, false, false, false, true, false, true, true, false, false, false, false, false] rfl rfl (any_of HT_.out (by kernel_rfl)) (fun _ _ _ h => h) (Or.inl ⟨by rfl, ?_⟩) ?_ ?_
                            rotate_left
                            · intro w'
                              go_simp
                              with_reducible rfl
                            rotate_left
                            · simp only [Act.put, List.setIfInBounds_toArray, List.set_cons_zero, List.set_cons_succ, i64_w, i32_w]
                              rfl
                            refine pure_ (i := 7) (N := some 102) (v := ?_) (a' := ?_) #[true, true, true, true, true, true, true, true, false, false, true, false, true, true, false, false, false, false, false] rfl rfl (any_of HT_.out (by kernel_rfl)) (fun _ _ _ h => h) (Or.inl ⟨by rfl, ?_⟩) ?_ ?_
                            rotate_left
                            · intro w'
                              go_simp
                              with_reducible rfl
                            rotate_left
                            · simp only [Act.put, List.setIfInBounds_toArray, List.set_cons_zero, List.set_cons_succ, i64_w, i32_w]
                              rfl
                            refine take_ (i := 8) (N := some 103) (v := ?_) (a' := ?_) #[true, true, true, true, true, true, true, true, true, false, true, false, true, true, false, false, false, false, false] rfl rfl (take_ofW HT_.out HW_.out (by kernel_rfl)) (fun _ _ _ h => h) (Or.inl ⟨by rfl, ?_⟩) hHeld ?_ ?_
                            rotate_left
                            · rintro w' ⟨s0, s1, s2, s3, s4, s5, s6⟩
                              go_simp
                              with_reducible rfl
                            rotate_left
                            · simp only [Act.put, List.setIfInBounds_toArray, List.set_cons_zero, List.set_cons_succ, i64_w, i32_w]
                              rfl
                            refine pure_ (i := 9) (N := some 104) (v := ?_) (a' := ?_) #[true, true, true, true, true, true, true, true, true, true, true, false, true, true, false, false, false, false, false] rfl rfl (any_of HT_.out (by kernel_rfl)) (fun _ _ _ h => h) (Or.inl ⟨by rfl, ?_⟩) ?_ ?_
                            rotate_left
                            · intro w'
                              go_simp
                              with_reducible rfl
                            rotate_left
                            · simp only [Act.put, List.setIfInBounds_toArray, List.set_cons_zero, List.set_cons_succ, i64_w, i32_w]
                              rfl
                            refine one_ (i := 11) (N := some 106) #[true, true, true, true, true, true, true, true, true, true, true, true, true, true, false, false, false, false, false] rfl rfl (one_of HT_.out (by kernel_rfl)) (by decide) (fun K hK => ?_)
                            refine Kd.R_lit_step (Kd.int .i64) _ 3 ?hg (N := 106) ?hd (xs := ([(-1), 101, wrap64 (((rd_T41 t261 (ji39)).f2) + 1), a6] : List Int)) (inner := [.int .i64 (-1), .int .i64 101, .int .i64 (wrap64 (((rd_T41 t261 (ji39)).f2) + 1)), .int .i64 a6]) (ok := fun _ => True) (okp := fun _ => True) ?hr ?hp (fun _ hk => hk) trivial (Below.refl _ _) (Nat.le_refl _) (by simp) ?_; (case hd => rfl); (case hg => rfl); (case hr => first | (go_simp; done) | (go_simp; rfl)); (case hp => exact (Reps.one (show Kd.M (Kd.int .i64) _ _ _ (-1) [.int .i64 (-1)] from rfl) (Reps.one (show Kd.M (Kd.int .i64) _ _ _ 101 [.int .i64 101] from rfl) (Reps.one (show Kd.M (Kd.int .i64) _ _ _ (wrap64 (((rd_T41 t261 (ji39)).f2) + 1)) [.int .i64 (wrap64 (((rd_T41 t261 (ji39)).f2) + 1))] from rfl) (Reps.one (show Kd.M (Kd.int .i64) _ _ _ a6 [.int .i64 a6] from rfl) (Reps.none _ _))))))
                            intro v290 w101 ho102 hb hg_ hnew_
                            have HS4_ := (hb.cell (World.block_lt_of_cell? _ _ (hHeld.2.2.2.2.1))).trans (hHeld.2.2.2.2.1)
                            have HS5_ := (hb.cell (World.block_lt_of_cell? _ _ (hHeld.2.2.2.2.2.1))).trans (hHeld.2.2.2.2.2.1)
                            have HS6_ := (hb.cell (World.block_lt_of_cell? _ _ (hHeld.2.2.2.2.2.2))).trans (hHeld.2.2.2.2.2.2)
                            clear hg_ hnew_
                            (first | rw [← Ny289.out] at ho102 | (simp only [Int.reduceToNat] at ho102; rw [← Ny289.out] at ho102))
                            have HO291 := Aside0.mk (Kd.R_lower ho102 (below_size (by repeat (first | (with_reducible first | exact HB.out | apply below_alloc | apply pw_below_drewN | apply below_drew1 | refine below_set ?_ GE256.out | refine below_set ?_ GE265.out) | exact HB.out))))
                            replace HO_266002 := Aside0.mk (Kd.R_below (by (with_reducible repeat (first | apply Kd.R_alloc | apply Kd.R_drewN | apply Kd.R_drew)); exact HO_266002.out) hb)
                            replace BK256 := Aside0.mk (blk_below (g := gb256) (pk BK256) hb)
                            replace BK265 := Aside0.mk (blk_below (g := gb265) (pk BK265) hb)
                            replace HB := Aside0.mk (below_step (by repeat (first | (with_reducible first | exact HB.out | apply below_alloc | apply pw_below_drewN | apply below_drew1 | refine below_set ?_ GE256.out | refine below_set ?_ GE265.out) | exact HB.out)) hb)
                            clear hb ho102
                            obtain ⟨Ao103, co103, eo103⟩ := Kd.R_slice HO291.out
                            subst eo103
                            obtain ⟨ado103, fo103, _⟩ := Kd.at_int (Kd.R_reads' HO291.out).2.2 0 (by decide) (by rw [Ny289.out]; simp)
                            cases fo103
                            have p99 : 0 ≤ ((ji39) : Int) := of_decide_eq_true (by first | (with_reducible assumption) | assumption)
                            have q99 : ((ji39) : Int) < ((t261.length : Int) : Int) := of_decide_eq_true (by first | (with_reducible assumption) | assumption)
                            obtain ⟨go99, co99, eo99, gb99, gl99, cl99, HG99⟩ := Kd.R_form HO_266002.out (by omega)
                            (first | cases eo99 | (injection eo99 with ea_ en_ ec_; (first | subst ea_ | (injection ea_ with ea_; subst ea_)); subst ec_; clear en_))
                            have GB99 := Aside0.mk gb99
                            have GG99 := Aside0.mk HG99
                            clear gb99 gl99 HG99
                            (first | simp only [add_plain] at hx288_0 | skip)
                            (first | simp only [add_plain] at hx288_1 | skip)
                            (first | simp only [add_plain] at hx288_2 | skip)
                            obtain ⟨ce99, hcl99, hM99, hcc99, hfr99⟩ := Kd.R_elem HO_266002.out z41 ((ji39) : Int) p99 q99
                            obtain rfl := k41_openM hM99
                            have hx99_0 : World.cell? _ ⟨go99, ((ji39) : Int).toNat * 3, none⟩ = some (.string ((rd_T41 t261 (ji39)).f0)) := hcc99 0 _ rfl
                            have hx99_1 : World.cell? _ ⟨go99, ((ji39) : Int).toNat * 3 + 1, none⟩ = some (.string ((rd_T41 t261 (ji39)).f1)) := hcc99 1 _ rfl
                            have hx99_2 : World.cell? _ ⟨go99, ((ji39) : Int).toNat * 3 + 2, none⟩ = some (.int .i64 ((rd_T41 t261 (ji39)).f2)) := hcc99 2 _ rfl
                            have hf99_0 : World.frozen? _ ⟨go99, ((ji39) : Int).toNat * 3, none⟩ = false := hfr99 0
                            have hf99_1 : World.frozen? _ ⟨go99, ((ji39) : Int).toNat * 3 + 1, none⟩ = false := hfr99 1
                            have hf99_2 : World.frozen? _ ⟨go99, ((ji39) : Int).toNat * 3 + 2, none⟩ = false := hfr99 2
                            clear hcl99 hcc99 hfr99 hM99
                            replace p99 := eq_true p99
                            replace q99 := eq_true q99
                            obtain ⟨ce104, hcl104, hM104, hcc104, hfr104⟩ := Kd.R_elem HO_266002.out z41 ((ji39) : Int) (of_decide_eq_true (by first | (with_reducible assumption) | assumption)) (by have h_ : ((ji39) : Int) < ((t261.length : Int) : Int) := of_decide_eq_true (by first | (with_reducible assumption) | assumption); first | exact h_ | (have e_ := (Kd.R_reads' HO_266002.out).1; omega) | simpa using h_)
                            obtain rfl := k41_openM hM104
                            have HP104 := (Kd.R_seg HO_266002.out ((ji39) : Int) (of_decide_eq_true (by first | (with_reducible assumption) | assumption)) (by have h_ : ((ji39) : Int) < ((t261.length : Int) : Int) := of_decide_eq_true (by first | (with_reducible assumption) | assumption); first | exact h_ | (have e_ := (Kd.R_reads' HO_266002.out).1; omega) | simpa using h_) (seg := [.int .i64 (rd y289 (ji96))]) (j := 2) hcl104 hcc104 (show 3 ≤ 3 from by decide) (x' := (⟨(rd_T41 t261 (ji39)).f0, (rd_T41 t261 (ji39)).f1, rd y289 (ji96)⟩ : S41)) (k41_mkM _ _ _ (⟨(rd_T41 t261 (ji39)).f0, (rd_T41 t261 (ji39)).f1, rd y289 (ji96)⟩ : S41) ) (fun _ hk => hk)).1
                            rw [← Ny293.out] at HP104
                            have HQ104 := Aside0.mk HP104
                            clear hcl104 hcc104 hfr104 hM104 HP104
                            refine hK.out _ _ ⟨bc BK265 0, bc BK265 1, bc BK265 2, bc BK265 3, HS4_, HS5_, HS6_⟩ (fun hHeld => ?_)
                            clear hK K
                            refine norm_ (a' := ?_) ?_ ?_
                            rotate_left
                            · show Act.put _ (some 106) _ = _
                              simp only [Act.put, List.setIfInBounds_toArray, List.set_cons_zero, List.set_cons_succ, i64_w, i32_w]
                              rfl
                            refine pure_ (i := 14) (N := some 109) (v := ?_) (a' := ?_) #[true, true, true, true, true, true, true, true, true, true, true, true, true, true, true, false, false, false, false] rfl rfl (any_of HT_.out (by kernel_rfl)) (fun _ _ _ h => h) (Or.inl ⟨by rfl, ?_⟩) ?_ ?_
                            rotate_left
                            · intro w'
                              go_simp
                              with_reducible rfl
                            rotate_left
                            · simp only [Act.put, List.setIfInBounds_toArray, List.set_cons_zero, List.set_cons_succ, i64_w, i32_w]
                              rfl
                            refine one_ (i := 15) (N := some 110) #[true, true, true, true, true, true, true, true, true, true, true, true, true, true, true, true, false, false, false] rfl rfl (one_of HT_.out (by kernel_rfl)) (by decide) (fun K hK => ?_)
                            (have p292 : 0 ≤ ((ji96) : Int) := of_decide_eq_true (by first | (with_reducible assumption) | assumption); have q292 : (ji96) < (y289.length : Int) := of_decide_eq_true (by first | (with_reducible assumption) | assumption); obtain ⟨ad292, e292, hx292_0⟩ := Kd.at_int (Kd.R_reads' HO291.out).2.2 (ji96) p292 q292; obtain rfl : ado103 = ad292 := (by injection e292))
                            with_reducible_and_instances refine value_ (w1 := ?_) (v := ?_) ?hw_ ?hN_ ?_ ?_
                            (case hw_ => rfl)
                            (case hN_ => rfl)
                            rotate_left 2
                            · go_simp
                              constructor
                              · rfl
                              · rfl
                            clear hx292_0
                            refine hK.out _ _ ⟨bc BK265 0, bc BK265 1, bc BK265 2, bc BK265 3, hHeld.2.2.2.2.1, hHeld.2.2.2.2.2.1, hHeld.2.2.2.2.2.2⟩ (fun hHeld => ?_)
                            clear hK K
                            refine norm_ (a' := ?_) ?_ ?_
                            rotate_left
                            · show Act.put _ (some 110) _ = _
                              simp only [Act.put, List.setIfInBounds_toArray, List.set_cons_zero, List.set_cons_succ, i64_w, i32_w]
                              rfl
                            refine pure_ (i := 16) (N := some 111) (v := ?_) (a' := ?_) #[true, true, true, true, true, true, true, true, true, true, true, true, true, true, true, true, true, false, false] rfl rfl (any_of HT_.out (by kernel_rfl)) (fun _ _ _ h => h) (Or.inl ⟨by rfl, ?_⟩) ?_ ?_
                            rotate_left
                            · intro w'
                              go_simp
                              with_reducible rfl
                            rotate_left
                            · simp only [Act.put, List.setIfInBounds_toArray, List.set_cons_zero, List.set_cons_succ, i64_w, i32_w]
                              rfl
                            refine pure_ (i := 17) (N := some 112) (v := ?_) (a' := ?_) #[true, true, true, true, true, true, true, true, true, true, true, true, true, true, true, true, true, true, false] rfl rfl (any_of HT_.out (by kernel_rfl)) (fun _ _ _ h => h) (Or.inl ⟨by rfl, ?_⟩) ?_ ?_
                            rotate_left
                            · intro w'
                              go_simp
                              with_reducible rfl
                            rotate_left
                            · simp only [Act.put, List.setIfInBounds_toArray, List.set_cons_zero, List.set_cons_succ, i64_w, i32_w]
                              rfl
                            refine last_ (i := 18) (N := none) #[true, true, true, true, true, true, true, true, true, true, true, true, true, true, true, true, true, true, true] rfl rfl (one_of HT_.out (by kernel_rfl)) (by decide) (fun K hK => ?_)
                            with_reducible_and_instances refine skip_ (w1 := ?_) ?hw_ ?hN_ ?_ ?_
                            (case hw_ => rfl)
                            (case hN_ => rfl)
                            rotate_left
                            · go_simp
                              rfl
                            refine hK.out _ _ ?_
                            clear hK K
                            refine done_ (done_of HT_.out (by kernel_rfl)) ?_
                            try go_wp2_with (first | (go_at_call 15; refine (damperlaw2_within.keep _ _ rfl (by first | decide | assumption | exact wi_ne (by assumption) | exact wi_ne' (by assumption) | omega) _).mono ?_; rintro e w' ⟨rfl, rfl⟩))
                            go_meet
                            case rel => exact ⟨_, (t259), (t260), (y293), (t264), (.slice (some ⟨go99, 0, none⟩) t261.length co23), H', ⟨by have := HJ13.out; first | omega | exact Nat.le_refl _⟩, ⟨by (with_reducible repeat (first | apply Kd.R_alloc | apply Kd.R_drewN | apply Kd.R_drew)); exact HQ104.out⟩, ⟨by (with_reducible repeat (first | refine blk_drewN ?_ _ | refine blk_drew ?_ | refine blk_alloc ?_ _)); refine blk_far ?_ (by have h_ := Kd.R_ne HO_266002.out BK256.out (by decide); intro e_; exact h_ (by rw [e_]; rfl)) _; (with_reducible repeat (first | refine blk_drewN ?_ _ | refine blk_drew ?_ | refine blk_alloc ?_ _)); exact BK256.out⟩, ⟨by (with_reducible repeat (first | refine blk_drewN ?_ _ | refine blk_drew ?_ | refine blk_alloc ?_ _)); refine blk_far ?_ (by have h_ := Kd.R_ne HO_266002.out BK265.out (by decide); intro e_; exact h_ (by rw [e_]; rfl)) _; (with_reducible repeat (first | refine blk_drewN ?_ _ | refine blk_drew ?_ | refine blk_alloc ?_ _)); exact BK265.out⟩, ⟨by repeat (first | (with_reducible first | exact HB.out | apply below_alloc | apply pw_below_drewN | apply below_drew1 | refine below_set ?_ GB99.out | refine below_set ?_ GE256.out | refine below_set ?_ GE265.out) | exact HB.out)⟩⟩
                          · rw [if_neg c93] at H
                            have c93b0 : ((ji40) == 6) = false := beq_eq_false_iff_ne.mpr c93
                            have c93b1 : ((ji40) != 6) = true := bne_iff_ne.mpr c93
                            by_cases c105 : (ji40) = 7
                            · rw [if_pos c105] at H
                              have c105b0 : ((ji40) == 7) = true := beq_iff_eq.mpr c105
                              have c105b1 : ((ji40) != 7) = false := bne_eq_false_iff_eq.mpr c105
                              clear c105
                              by_cases c106 : 0 < (t261.length : Int)
                              rotate_left
                              · rw [if_neg c106] at H
                                exact absurd H (by simp)
                              rw [if_pos c106] at H
                              have c106b0 : decide (0 < (t261.length : Int)) = true := decide_eq_true c106
                              have c106b1 : decide (0 < t261.length) = true := decide_eq_true (by omega)
                              clear c106
                              by_cases c107 : 0 ≤ (ji39)
                              rotate_left
                              · rw [if_neg c107] at H
                                exact absurd H (by simp)
                              rw [if_pos c107] at H
                              have c107b0 : decide (0 ≤ (ji39)) = true := decide_eq_true c107
                              clear c107
                              by_cases c108 : (ji39) < (t261.length : Int)
                              rotate_left
                              · rw [if_neg c108] at H
                                exact absurd H (by simp)
                              rw [if_pos c108] at H
                              have c108b0 : decide ((ji39) < (t261.length : Int)) = true := decide_eq_true c108
                              clear c108
                              obtain ⟨y295, hy295⟩ : ∃ y_ : List (S41), y_ = (t261.set ((ji39) : Int).toNat (⟨(rd_T41 t261 (ji39)).f0, (rd_T41 t261 0).f1, (rd_T41 t261 (ji39)).f2⟩ : S41)) := ⟨_, rfl⟩
                              replace H : (damperlaw2_SpecRoutes.j1 kj13 t259 t260 y295 t264) = some r := by first | (rw [hy295]; with_reducible exact H) | (have H2_ := (Option.bind_some _ _).symm.trans H; rw [hy295]; with_reducible exact H2_) | (have H2_ := (Option.bind_some _ _).symm.trans H; with_reducible exact H2_) | with_reducible exact H | (rw [hy295]; exact H) | exact H
                              have Ny295 := Aside0.mk hy295
                              clear hy295
                              have H' := Aside0.mk H
                              clear H
                              try go_wp2_with (first | (go_at_call 15; refine (damperlaw2_within.keep _ _ rfl (by first | decide | assumption | exact wi_ne (by assumption) | exact wi_ne' (by assumption) | omega) _).mono ?_; rintro e w' ⟨rfl, rfl⟩))
                              replace HO_266002 := Aside0.mk (Kd.R_drew HO_266002.out)
                              replace BK256 := Aside0.mk (blk_drew BK256.out)
                              replace BK265 := Aside0.mk (blk_drew BK265.out)
                              replace HB := Aside0.mk (below_drew1 HB.out)
                              have p294 : 0 ≤ (0 : Int) := (by omega)
                              have q294 : 0 < (t261.length : Int) := of_decide_eq_true (by first | (with_reducible assumption) | assumption)
                              obtain ⟨ad294, e294, hx294_0, hx294_1, hx294_2⟩ := at_T41 (Kd.R_reads' HO_266002.out).2.2 0 p294 q294
                              cases e294
                              have qi294 : (0 < t261.length) = True := eq_true (by omega)
                              (try rw [show ((0 : Int)).toNat = 0 from rfl] at hx294_0)
                              (try rw [show 0 * 3 = 0 from rfl] at hx294_0)
                              (try rw [Addr.add_zero'] at hx294_0)
                              (try rw [show ((0 : Int)).toNat = 0 from rfl] at hx294_1)
                              (try rw [show 0 * 3 = 0 from rfl] at hx294_1)
                              (try rw [Addr.add_zero'] at hx294_1)
                              (try rw [show ((0 : Int)).toNat = 0 from rfl] at hx294_2)
                              (try rw [show 0 * 3 = 0 from rfl] at hx294_2)
                              (try rw [Addr.add_zero'] at hx294_2)
                              replace p294 := eq_true p294
                              replace q294 := eq_true q294
                              have p109 : 0 ≤ ((ji39) : Int) := of_decide_eq_true (by first | (with_reducible assumption) | assumption)
                              have q109 : ((ji39) : Int) < ((t261.length : Int) : Int) := of_decide_eq_true (by first | (with_reducible assumption) | assumption)
                              obtain ⟨go109, co109, eo109, gb109, gl109, cl109, HG109⟩ := Kd.R_form HO_266002.out (by omega)
                              (first | cases eo109 | (injection eo109 with ea_ en_ ec_; (first | subst ea_ | (injection ea_ with ea_; subst ea_)); subst ec_; clear en_))
                              have GB109 := Aside0.mk gb109
                              have GG109 := Aside0.mk HG109
                              clear gb109 gl109 HG109
                              (first | simp only [add_plain] at hx294_0 | skip)
                              (first | simp only [add_plain] at hx294_1 | skip)
                              (first | simp only [add_plain] at hx294_2 | skip)
                              obtain ⟨ce109, hcl109, hM109, hcc109, hfr109⟩ := Kd.R_elem HO_266002.out z41 ((ji39) : Int) p109 q109
                              obtain rfl := k41_openM hM109
                              have hx109_0 : World.cell? _ ⟨go109, ((ji39) : Int).toNat * 3, none⟩ = some (.string ((rd_T41 t261 (ji39)).f0)) := hcc109 0 _ rfl
                              have hx109_1 : World.cell? _ ⟨go109, ((ji39) : Int).toNat * 3 + 1, none⟩ = some (.string ((rd_T41 t261 (ji39)).f1)) := hcc109 1 _ rfl
                              have hx109_2 : World.cell? _ ⟨go109, ((ji39) : Int).toNat * 3 + 2, none⟩ = some (.int .i64 ((rd_T41 t261 (ji39)).f2)) := hcc109 2 _ rfl
                              have hf109_0 : World.frozen? _ ⟨go109, ((ji39) : Int).toNat * 3, none⟩ = false := hfr109 0
                              have hf109_1 : World.frozen? _ ⟨go109, ((ji39) : Int).toNat * 3 + 1, none⟩ = false := hfr109 1
                              have hf109_2 : World.frozen? _ ⟨go109, ((ji39) : Int).toNat * 3 + 2, none⟩ = false := hfr109 2
                              clear hcl109 hcc109 hfr109 hM109
                              replace p109 := eq_true p109
                              replace q109 := eq_true q109
                              obtain ⟨ce111, hcl111, hM111, hcc111, hfr111⟩ := Kd.R_elem HO_266002.out z41 ((ji39) : Int) (of_decide_eq_true (by first | (with_reducible assumption) | assumption)) (by have h_ : ((ji39) : Int) < ((t261.length : Int) : Int) := of_decide_eq_true (by first | (with_reducible assumption) | assumption); first | exact h_ | (have e_ := (Kd.R_reads' HO_266002.out).1; omega) | simpa using h_)
                              obtain rfl := k41_openM hM111
                              have HP111 := (Kd.R_seg HO_266002.out ((ji39) : Int) (of_decide_eq_true (by first | (with_reducible assumption) | assumption)) (by have h_ : ((ji39) : Int) < ((t261.length : Int) : Int) := of_decide_eq_true (by first | (with_reducible assumption) | assumption); first | exact h_ | (have e_ := (Kd.R_reads' HO_266002.out).1; omega) | simpa using h_) (seg := [.string ((rd_T41 t261 0).f1)]) (j := 1) hcl111 hcc111 (show 2 ≤ 3 from by decide) (x' := (⟨(rd_T41 t261 (ji39)).f0, (rd_T41 t261 0).f1, (rd_T41 t261 (ji39)).f2⟩ : S41)) (k41_mkM _ _ _ (⟨(rd_T41 t261 (ji39)).f0, (rd_T41 t261 0).f1, (rd_T41 t261 (ji39)).f2⟩ : S41) ) (fun _ hk => hk)).1
                              rw [← Ny295.out] at HP111
                              have HQ111 := Aside0.mk HP111
                              clear hcl111 hcc111 hfr111 hM111 HP111
                              refine start_ (n := 11) (S := fun w' => w'.cell? ⟨gb265, 0, none⟩ = some (.string t259) ∧ w'.cell? ⟨gb265, 1, none⟩ = some (.string t260) ∧ w'.cell? ⟨gb265, 2, none⟩ = some (.slice (some ⟨go109, 0, none⟩) t261.length co23) ∧ w'.cell? ⟨gb265, 3, none⟩ = some (.int .i64 t264) ∧ w'.cell? ⟨go109, 0, none⟩ = some (.string ((rd_T41 t261 0).f0)) ∧ w'.cell? ⟨go109, 1, none⟩ = some (.string ((rd_T41 t261 0).f1)) ∧ w'.cell? ⟨go109, 2, none⟩ = some (.int .i64 ((rd_T41 t261 0).f2))) (ds := [10]) #[false, false, false, false, false, false, false, false, false, false, false] (by kernel_rfl) rfl rfl ⟨bc BK265 0, bc BK265 1, bc BK265 2, bc BK265 3, hx294_0, hx294_1, hx294_2⟩ (fun hHeld => ?_); refine with_tabW damperlaw2_SpecRoutes.tab25 damperlaw2_SpecRoutes.bits25 (fun HT_ HW_ => ?_)
                              generalize wc.drew = w110 at HO_266002 BK256 BK265 HB GG109 HQ111 hf109_0 hf109_1 hf109_2 hx109_0 hx109_1 hx109_2 hx294_0 hx294_1 hx294_2 hHeld ⊢
                              refine pure_ (i := 0) (N := some 115) (v := ?_) (a' := ?_) #[true, false, false, false, false, false, false, false, false, false, false] rfl rfl (any_of HT_.out (by kernel_rfl)) (fun _ _ _ h => h) (Or.inl ⟨by rfl, ?_⟩) ?_ ?_
                              rotate_left
                              · intro w'
                                go_simp
                                with_reducible rfl
                              rotate_left
                              · simp only [Act.put, List.setIfInBounds_toArray, List.set_cons_zero, List.set_cons_succ, i64_w, i32_w]
                                rfl
                              refine pure_ (i := 2) (N := some 117) (v := ?_) (a' := ?_) #[true, false, true, false, false, false, false, false, false, false, false] rfl rfl (any_of HT_.out (by kernel_rfl)) (fun _ _ _ h => h) (Or.inl ⟨by rfl, ?_⟩) ?_ ?_
                              rotate_left
                              · intro w'
                                go_simp
                                with_reducible rfl
                              rotate_left
                              · simp only [Act.put, List.setIfInBounds_toArray, List.set_cons_zero, List.set_cons_succ, i64_w, i32_w]
                                rfl
                              refine pure_ (i := 3) (N := some 118) (v := ?_) (a' := ?_) #[true, false, true, true, false, false, false, false, false, false, false] rfl rfl (any_of HT_.out (by kernel_rfl)) (fun _ _ _ h => h) (Or.inl ⟨by rfl, ?_⟩) ?_ ?_
                              rotate_left
                              · intro w'
                                go_simp
                                with_reducible rfl
                              rotate_left
                              · simp only [Act.put, List.setIfInBounds_toArray, List.set_cons_zero, List.set_cons_succ, i64_w, i32_w]
                                rfl
                              refine take_ (i := 1) (N := some 116) (v := ?_) (a' := ?_) #[true, true, true, true, false, false, false, false, false, false, false] rfl rfl (take_ofW HT_.out HW_.out (by kernel_rfl)) (fun _ _ _ h => h) (Or.inl ⟨by rfl, ?_⟩) hHeld ?_ ?_
                              rotate_left
                              · rintro w' ⟨s0, s1, s2, s3, s4, s5, s6⟩
                                go_simp
                                with_reducible rfl
                              rotate_left
                              · simp only [Act.put, List.setIfInBounds_toArray, List.set_cons_zero, List.set_cons_succ, i64_w, i32_w]
                                rfl
                              refine take_ (i := 4) (N := some 119) (v := ?_) (a' := ?_) #[true, true, true, true, true, false, false, false, false, false, false] rfl rfl (take_ofW HT_.out HW_.out (by kernel_rfl)) (fun _ _ _ h => h) (Or.inl ⟨by rfl, ?_⟩) hHeld ?_ ?_
                              rotate_left
                              · rintro w' ⟨s0, s1, s2, s3, s4, s5, s6⟩
                                go_simp
                                with_reducible rfl
                              rotate_left
                              · simp only [Act.put, List.setIfInBounds_toArray, List.set_cons_zero, List.set_cons_succ, i64_w, i32_w]
                                rfl
                              refine pure_ (i := 5) (N := some 120) (v := ?_) (a' := ?_) #[true, true, true, true, true, true, false, false, false, false, false] rfl rfl (any_of HT_.out (by kernel_rfl)) (fun _ _ _ h => h) (Or.inl ⟨by rfl, ?_⟩) ?_ ?_
                              rotate_left
                              · intro w'
                                go_simp
                                with_reducible rfl
                              rotate_left
                              · simp only [Act.put, List.setIfInBounds_toArray, List.set_cons_zero, List.set_cons_succ, i64_w, i32_w]
                                rfl
                              refine pure_ (i := 6) (N := some 121) (v := ?_) (a' := ?_) #[true, true, true, true, true, true, true, false, false, false, false] rfl rfl (any_of HT_.out (by kernel_rfl)) (fun _ _ _ h => h) (Or.inl ⟨by rfl, ?_⟩) ?_ ?_
                              rotate_left
                              · intro w'
                                go_simp
                                with_reducible rfl
                              rotate_left
                              · simp only [Act.put, List.setIfInBounds_toArray, List.set_cons_zero, List.set_cons_succ, i64_w, i32_w]
                                rfl
                              refine take_ (i := 7) (N := some 122) (v := ?_) (a' := ?_) #[true, true, true, true, true, true, true, true, false, false, false] rfl rfl (take_ofW HT_.out HW_.out (by kernel_rfl)) (fun _ _ _ h => h) (Or.inl ⟨by rfl, ?_⟩) hHeld ?_ ?_
                              rotate_left
                              · rintro w' ⟨s0, s1, s2, s3, s4, s5, s6⟩
                                go_simp
                                with_reducible rfl
                              rotate_left
                              · simp only [Act.put, List.setIfInBounds_toArray, List.set_cons_zero, List.set_cons_succ, i64_w, i32_w]
                                rfl
                              refine pure_ (i := 8) (N := some 123) (v := ?_) (a' := ?_) #[true, true, true, true, true, true, true, true, true, false, false] rfl rfl (any_of HT_.out (by kernel_rfl)) (fun _ _ _ h => h) (Or.inl ⟨by rfl, ?_⟩) ?_ ?_
                              rotate_left
                              · intro w'
                                go_simp
                                with_reducible rfl
                              rotate_left
                              · simp only [Act.put, List.setIfInBounds_toArray, List.set_cons_zero, List.set_cons_succ, i64_w, i32_w]
                                rfl
                              refine pure_ (i := 9) (N := some 124) (v := ?_) (a' := ?_) #[true, true, true, true, true, true, true, true, true, true, false] rfl rfl (any_of HT_.out (by kernel_rfl)) (fun _ _ _ h => h) (Or.inl ⟨by rfl, ?_⟩) ?_ ?_
                              rotate_left
                              · intro w'
                                go_simp
                                with_reducible rfl
                              rotate_left
                              · simp only [Act.put, List.setIfInBounds_toArray, List.set_cons_zero, List.set_cons_succ, i64_w, i32_w]
                                rfl
                              refine last_ (i := 10) (N := none) #[true, true, true, true, true, true, true, true, true, true, true] rfl rfl (one_of HT_.out (by kernel_rfl)) (by decide) (fun K hK => ?_)
                              with_reducible_and_instances refine skip_ (w1 := ?_) ?hw_ ?hN_ ?_ ?_
                              (case hw_ => rfl)
                              (case hN_ => rfl)
                              rotate_left
                              · go_simp
                                rfl
                              refine hK.out _ _ ?_
                              clear hK K
                              refine done_ (done_of HT_.out (by kernel_rfl)) ?_
                              try go_wp2_with (first | (go_at_call 15; refine (damperlaw2_within.keep _ _ rfl (by first | decide | assumption | exact wi_ne (by assumption) | exact wi_ne' (by assumption) | omega) _).mono ?_; rintro e w' ⟨rfl, rfl⟩))
                              go_meet
                              case rel => exact ⟨_, (t259), (t260), (y295), (t264), (.slice (some ⟨go109, 0, none⟩) t261.length co23), H', ⟨by have := HJ13.out; first | omega | exact Nat.le_refl _⟩, ⟨by (with_reducible repeat (first | apply Kd.R_alloc | apply Kd.R_drewN | apply Kd.R_drew)); exact HQ111.out⟩, ⟨by (with_reducible repeat (first | refine blk_drewN ?_ _ | refine blk_drew ?_ | refine blk_alloc ?_ _)); refine blk_far ?_ (by have h_ := Kd.R_ne HO_266002.out BK256.out (by decide); intro e_; exact h_ (by rw [e_]; rfl)) _; (with_reducible repeat (first | refine blk_drewN ?_ _ | refine blk_drew ?_ | refine blk_alloc ?_ _)); exact BK256.out⟩, ⟨by (with_reducible repeat (first | refine blk_drewN ?_ _ | refine blk_drew ?_ | refine blk_alloc ?_ _)); refine blk_far ?_ (by have h_ := Kd.R_ne HO_266002.out BK265.out (by decide); intro e_; exact h_ (by rw [e_]; rfl)) _; (with_reducible repeat (first | refine blk_drewN ?_ _ | refine blk_drew ?_ | refine blk_alloc ?_ _)); exact BK265.out⟩, ⟨by repeat (first | (with_reducible first | exact HB.out | apply below_alloc | apply pw_below_drewN | apply below_drew1 | refine below_set ?_ GB109.out | refine below_set ?_ GE256.out | refine below_set ?_ GE265.out) | exact HB.out)⟩⟩
                            · rw [if_neg c105] at H
                              have c105b0 : ((ji40) == 7) = false := beq_eq_false_iff_ne.mpr c105
                              have c105b1 : ((ji40) != 7) = true := bne_iff_ne.mpr c105
                              by_cases c112 : (ji40) = 8
                              · rw [if_pos c112] at H
                                have c112b0 : ((ji40) == 8) = true := beq_iff_eq.mpr c112
                                have c112b1 : ((ji40) != 8) = false := bne_eq_false_iff_eq.mpr c112
                                clear c112
                                obtain ⟨ji113, hji113⟩ : ∃ j_ : Int, (wi a6 (t261.length : Int)) = j_ := ⟨_, rfl⟩
                                replace H : (if 0 ≤ (ji113) then (if (ji113) ≤ (t261.length : Int) then (damperlaw2_SpecRoutes.j1 kj13 t259 t260 (t261.take ((ji113) : Int).toNat) t264) else (none)) else (none)) = some r := by first | (rw [hji113] at H; exact H) | (simp only [hji113] at H ⊢; exact H)
                                by_cases c114 : 0 ≤ (ji113)
                                rotate_left
                                · rw [if_neg c114] at H
                                  exact absurd H (by simp)
                                rw [if_pos c114] at H
                                have c114b0 := eq_true c114
                                have c114b1 : decide (0 ≤ (ji113)) = true := decide_eq_true c114
                                try have c114bm : max (ji113) 0 = (ji113) := Int.max_eq_left c114
                                clear c114
                                by_cases c115 : (ji113) ≤ (t261.length : Int)
                                rotate_left
                                · rw [if_neg c115] at H
                                  exact absurd H (by simp)
                                rw [if_pos c115] at H
                                have c115b0 := eq_true c115
                                have c115b1 : decide ((ji113) ≤ (t261.length : Int)) = true := decide_eq_true c115
                                clear c115
                                obtain ⟨y296, hy296⟩ : ∃ y_ : List (S41), y_ = (t261.take ((ji113) : Int).toNat) := ⟨_, rfl⟩
                                replace H : (damperlaw2_SpecRoutes.j1 kj13 t259 t260 y296 t264) = some r := by first | (rw [hy296]; with_reducible exact H) | (have H2_ := (Option.bind_some _ _).symm.trans H; rw [hy296]; with_reducible exact H2_) | (have H2_ := (Option.bind_some _ _).symm.trans H; with_reducible exact H2_) | with_reducible exact H | (rw [hy296]; exact H) | exact H
                                have Ny296 := Aside0.mk hy296
                                clear hy296
                                have H' := Aside0.mk H
                                clear H
                                try go_wp2_with (first | (go_at_call 15; refine (damperlaw2_within.keep _ _ rfl (by first | decide | assumption | exact wi_ne (by assumption) | exact wi_ne' (by assumption) | omega) _).mono ?_; rintro e w' ⟨rfl, rfl⟩))
                                replace HO_266002 := Aside0.mk (Kd.R_drew HO_266002.out)
                                replace BK256 := Aside0.mk (blk_drew BK256.out)
                                replace BK265 := Aside0.mk (blk_drew BK265.out)
                                replace HB := Aside0.mk (below_drew1 HB.out)
                                have q117 : ((ji113) : Int) ≤ ((t261.length : Int) : Int) := of_decide_eq_true (by first | (with_reducible assumption) | assumption)
                                obtain ⟨i0117, hi0117, _, hsz117, _⟩ := info_parts info41
                                have hcut117 := cut_to (P := Tryd.prog) 33 41 .i64 Tryd.underlying33 hi0117 Ao23 t261.length co23 (ji113) (of_decide_eq_true (by first | (with_reducible assumption) | assumption)) q117 (Kd.R_reads' HO_266002.out).2.1
                                have hr117 := Kd.R_take (m := ((ji113) : Int).toNat) HO_266002.out (by omega)
                                have hy117 : y296.length = ((ji113) : Int).toNat := (by rw [Ny296.out, List.length_take]; omega)
                                rw [← Ny296.out] at hr117
                                rw [← hy117] at hr117 hcut117
                                clear hy117 hi0117 hsz117 HO_266002
                                have HO298 := Aside0.mk hr117
                                clear hr117
                                replace q117 := eq_true q117
                                refine start_ (n := 10) (S := fun w' => w'.cell? ⟨gb265, 0, none⟩ = some (.string t259) ∧ w'.cell? ⟨gb265, 1, none⟩ = some (.string t260) ∧ w'.cell? ⟨gb265, 2, none⟩ = some (.slice Ao23 t261.length co23) ∧ w'.cell? ⟨gb265, 3, none⟩ = some (.int .i64 t264)) (ds := [9]) #[false, false, false, false, false, false, false, false, false, false] (by kernel_rfl) rfl rfl ⟨bc BK265 0, bc BK265 1, bc BK265 2, bc BK265 3⟩ (fun hHeld => ?_); refine with_tabW damperlaw2_SpecRoutes.tab27 damperlaw2_SpecRoutes.bits27 (fun HT_ HW_ => ?_)
                                generalize wc.drew = w116 at BK256 BK265 HB HO298 hHeld ⊢
                                refine pure_ (i := 0) (N := some 127) (v := ?_) (a' := ?_) #[true, false, false, false, false, false, false, false, false, false] rfl rfl (any_of HT_.out (by kernel_rfl)) (fun _ _ _ h => h) (Or.inl ⟨by rfl, ?_⟩) ?_ ?_
                                rotate_left
                                · intro w'
                                  go_simp
                                  with_reducible rfl
                                rotate_left
                                · simp only [Act.put, List.setIfInBounds_toArray, List.set_cons_zero, List.set_cons_succ, i64_w, i32_w]
                                  rfl
                                refine pure_ (i := 2) (N := some 129) (v := ?_) (a' := ?_) #[true, false, true, false, false, false, false, false, false, false] rfl rfl (any_of HT_.out (by kernel_rfl)) (fun _ _ _ h => h) (Or.inl ⟨by rfl, ?_⟩) ?_ ?_
                                rotate_left
                                · intro w'
                                  go_simp
                                  with_reducible rfl
                                rotate_left
                                · simp only [Act.put, List.setIfInBounds_toArray, List.set_cons_zero, List.set_cons_succ, i64_w, i32_w]
                                  rfl
                                refine pure_ (i := 3) (N := some 130) (v := ?_) (a' := ?_) #[true, false, true, true, false, false, false, false, false, false] rfl rfl (any_of HT_.out (by kernel_rfl)) (fun _ _ _ h => h) (Or.inl ⟨by rfl, ?_⟩) ?_ ?_
                                rotate_left
                                · intro w'
                                  go_simp
                                  with_reducible rfl
                                rotate_left
                                · simp only [Act.put, List.setIfInBounds_toArray, List.set_cons_zero, List.set_cons_succ, i64_w, i32_w]
                                  rfl
                                refine take_ (i := 1) (N := some 128) (v := ?_) (a' := ?_) #[true, true, true, true, false, false, false, false, false, false] rfl rfl (take_ofW HT_.out HW_.out (by kernel_rfl)) (fun _ _ _ h => h) (Or.inl ⟨by rfl, ?_⟩) hHeld ?_ ?_
                                rotate_left
                                · rintro w' ⟨s0, s1, s2, s3⟩
                                  go_simp
                                  with_reducible rfl
                                rotate_left
                                · simp only [Act.put, List.setIfInBounds_toArray, List.set_cons_zero, List.set_cons_succ, i64_w, i32_w]
                                  rfl
                                refine take_ (i := 4) (N := some 131) (v := ?_) (a' := ?_) #[true, true, true, true, true, false, false, false, false, false] rfl rfl (take_ofW HT_.out HW_.out (by kernel_rfl)) (fun _ _ _ h => h) (Or.inl ⟨by rfl, ?_⟩) hHeld ?_ ?_
                                rotate_left
                                · rintro w' ⟨s0, s1, s2, s3⟩
                                  go_simp
                                  with_reducible rfl
                                rotate_left
                                · simp only [Act.put, List.setIfInBounds_toArray, List.set_cons_zero, List.set_cons_succ, i64_w, i32_w]
                                  rfl
                                refine pure_ (i := 5) (N := some 132) (v := ?_) (a' := ?_) #[true, true, true, true, true, true, false, false, false, false] rfl rfl (any_of HT_.out (by kernel_rfl)) (fun _ _ _ h => h) (Or.inl ⟨by rfl, ?_⟩) ?_ ?_
                                rotate_left
                                · intro w'
                                  go_simp
                                  with_reducible rfl
                                rotate_left
                                · simp only [Act.put, List.setIfInBounds_toArray, List.set_cons_zero, List.set_cons_succ, i64_w, i32_w]
                                  rfl
                                refine callp_ (i := 6) (N := some 133) (a' := ?a8_) #[true, true, true, true, true, true, true, false, false, false] rfl rfl (by kernel_rfl) (fun _ _ _ h => h) (by rfl) Tryd.func15 (by kernel_rfl) rfl rfl (by (try simp only [List.map_toArray, List.map_cons, List.map_nil]); rfl) (damperlaw2_within.same _ _ (r := ?jj8_) ?hj8_ (by first | decide | assumption | exact wi_ne (by assumption) | exact wi_ne' (by assumption) | omega)) ?ha8_ ?h8_
                                (case hj8_ => (try simp only [i64_w, i32_w]); first | assumption | (go_simp; rfl))
                                (case ha8_ => simp only [Act.put, List.setIfInBounds_toArray, List.set_cons_zero, List.set_cons_succ, i64_w, i32_w]; rfl)
                                refine pure_ (i := 7) (N := some 134) (v := ?_) (a' := ?_) #[true, true, true, true, true, true, true, true, false, false] rfl rfl (any_of HT_.out (by kernel_rfl)) (fun _ _ _ h => h) (Or.inl ⟨by rfl, ?_⟩) ?_ ?_
                                rotate_left
                                · intro w'
                                  go_simp
                                  with_reducible rfl
                                rotate_left
                                · simp only [Act.put, List.setIfInBounds_toArray, List.set_cons_zero, List.set_cons_succ, i64_w, i32_w]
                                  rfl
                                refine pure_ (i := 8) (N := some 135) (v := ?_) (a' := ?_) #[true, true, true, true, true, true, true, true, true, false] rfl rfl (any_of HT_.out (by kernel_rfl)) (fun _ _ _ h => h) (Or.inl ⟨by rfl, ?_⟩) ?_ ?_
                                rotate_left
                                · intro w'
                                  go_simp
                                  with_reducible rfl
                                rotate_left
                                · simp only [Act.put, List.setIfInBounds_toArray, List.set_cons_zero, List.set_cons_succ, i64_w, i32_w]
                                  rfl
                                refine last_ (i := 9) (N := none) #[true, true, true, true, true, true, true, true, true, true] rfl rfl (one_of HT_.out (by kernel_rfl)) (by decide) (fun K hK => ?_)
                                have hs118 : w116.cell? ⟨gb265, 2, none⟩ = some (.slice Ao23 t261.length co23) := bc BK265 2
                                have hfs118 := blk_frozen BK265.out 2
                                have hns118_0 := NB256_265.out
                                have hms118_0 := NB265_256.out
                                with_reducible_and_instances refine skip_ (w1 := ?_) ?hw_ ?hN_ ?_ ?_
                                (case hw_ => rfl)
                                (case hN_ => rfl)
                                rotate_left
                                · go_simp
                                  rfl
                                refine hK.out _ _ ?_
                                clear hK K
                                refine done_ (done_of HT_.out (by kernel_rfl)) ?_
                                try go_wp2_with (first | (go_at_call 15; refine (damperlaw2_within.keep _ _ rfl (by first | decide | assumption | exact wi_ne (by assumption) | exact wi_ne' (by assumption) | omega) _).mono ?_; rintro e w' ⟨rfl, rfl⟩))
                                go_meet
                                case rel => exact ⟨_, (t259), (t260), (y296), (t264), (.slice Ao23 y296.length co23), H', ⟨by have := HJ13.out; first | omega | exact Nat.le_refl _⟩, ⟨by (with_reducible repeat (first | apply Kd.R_alloc | apply Kd.R_drewN | apply Kd.R_drew)); exact Kd.R_mono (Kd.R_far (p := ⟨gb265, 2, none⟩) (Kd.R_types HO298.out BK265.out (by decide)) (fun _ hk => hk.2) (.slice Ao23 y296.length co23)) (fun _ hk => trivial)⟩, ⟨by (with_reducible repeat (first | refine blk_drewN ?_ _ | refine blk_drew ?_ | refine blk_alloc ?_ _)); refine blk_far ?_ NB256_265.out _; (with_reducible repeat (first | refine blk_drewN ?_ _ | refine blk_drew ?_ | refine blk_alloc ?_ _)); exact BK256.out⟩, ⟨by (with_reducible repeat (first | refine blk_drewN ?_ _ | refine blk_drew ?_ | refine blk_alloc ?_ _)); refine blk_put (cs := #[.string t259, .string t260, .slice Ao23 t261.length co23, .int .i64 t264]) ?_ 2 _ rfl; (with_reducible repeat (first | refine blk_drewN ?_ _ | refine blk_drew ?_ | refine blk_alloc ?_ _)); exact BK265.out⟩, ⟨by repeat (first | (with_reducible first | exact HB.out | apply below_alloc | apply pw_below_drewN | apply below_drew1 | refine below_set ?_ GE256.out | refine below_set ?_ GE265.out) | exact HB.out)⟩⟩
                              · rw [if_neg c112] at H
                                have c112b0 : ((ji40) == 8) = false := beq_eq_false_iff_ne.mpr c112
                                have c112b1 : ((ji40) != 8) = true := bne_iff_ne.mpr c112
                                have H' := Aside0.mk H
                                clear H
                                go_wp2_with (first | (go_at_call 15; refine (damperlaw2_within.keep _ _ rfl (by first | decide | assumption | exact wi_ne (by assumption) | exact wi_ne' (by assumption) | omega) _).mono ?_; rintro e w' ⟨rfl, rfl⟩))
                                go_meet
                                case rel => exact ⟨_, (t259), (t260), (t261), (t264), (.slice Ao23 t261.length co23), H', ⟨by have := HJ13.out; first | omega | exact Nat.le_refl _⟩, ⟨by (with_reducible repeat (first | apply Kd.R_alloc | apply Kd.R_drewN | apply Kd.R_drew)); exact HO_266002.out⟩, ⟨by (with_reducible repeat (first | refine blk_drewN ?_ _ | refine blk_drew ?_ | refine blk_alloc ?_ _)); exact BK256.out⟩, ⟨by (with_reducible repeat (first | refine blk_drewN ?_ _ | refine blk_drew ?_ | refine blk_alloc ?_ _)); exact BK265.out⟩, ⟨by repeat (first | (with_reducible first | exact HB.out | apply below_alloc | apply pw_below_drewN | apply below_drew1 | refine below_set ?_ GE256.out | refine below_set ?_ GE265.out) | exact HB.out)⟩⟩
            case rest =>
              clear HC41
              try clear c1
              try clear p1
              try clear q1
              try clear hx1
              try clear p2
              try clear q2
              try clear hx2
              try clear qi2
              try clear p6
              try clear c9
              try clear p9
              try clear q9
              try clear hx9
              try clear hf9
              try clear c10
              try clear p10
              try clear q10
              try clear hx10
              try clear hf10
              try clear c11
              try clear q11
              try clear c15
              try clear p28
              try clear q28
              try clear hx28
              try clear p29
              try clear q29
              try clear hx29
              try clear qi29
              try clear p64
              try clear c93
              try clear c93b0
              try clear c93b1
              try clear c97
              try clear c97b0
              try clear c98
              try clear c98b0
              try clear c99
              try clear p99
              try clear q99
              try clear hx99
              try clear hf99
              try clear c104
              try clear c105
              try clear c105b0
              try clear c105b1
              try clear c106
              try clear c106b0
              try clear c106b1
              try clear c107
              try clear c107b0
              try clear c108
              try clear c108b0
              try clear c109
              try clear p109
              try clear q109
              try clear hx109
              try clear hf109
              try clear c111
              try clear c112
              try clear c112b0
              try clear c112b1
              try clear c114
              try clear c114b0
              try clear c114b1
              try clear c115
              try clear c115b0
              try clear c115b1
              try clear q117
              try clear hx109_0
              try clear hx109_1
              try clear hx109_2
              try clear hx288_0
              try clear hx288_1
              try clear hx288_2
              try clear hx292_0
              try clear hx294_0
              try clear hx294_1
              try clear hx294_2
              try clear hx99_0
              try clear hx99_1
              try clear hx99_2
              try clear p109
              try clear p288
              try clear p292
              try clear p294
              try clear p99
              try clear q109
              try clear q117
              try clear q288
              try clear q292
              try clear q294
              try clear q99
              obtain ⟨kq, x266000_40, x266001_40, x266002_40, x266003_40, u266002, HA, HJ40, HO_266002, BK256, BK265, HB⟩ := hcut
              cases kq with
              | zero => exact absurd HA.out (by simp [damperlaw2_SpecRoutes.j1])
              | succ kj40 =>
                have H := HA.out
                clear HA
                simp only [damperlaw2_SpecRoutes.j1] at H
                replace H := Option.bind_eq_some_iff.mp H
                obtain ⟨t299, A1190, H⟩ := H
                replace H : ((damperref2_Route.f kj40 x266000_40 x266001_40 x266002_40 x266003_40).bind fun t300 => (some (t299 == t300))) = some r := H
                have A119 := Aside0.mk A1190
                clear A1190
                replace H := Option.bind_eq_some_iff.mp H
                obtain ⟨t300, A1200, H⟩ := H
                replace H : (some (t299 == t300)) = some r := H
                have A120 := Aside0.mk A1200
                clear A1200
                obtain rfl := Option.some.inj H
                try go_wp2_with (first | (go_at_call 15; refine (damperlaw2_within.keep _ _ rfl (by first | decide | assumption | exact wi_ne (by assumption) | exact wi_ne' (by assumption) | omega) _).mono ?_; rintro e w' ⟨rfl, rfl⟩))
                replace HO_266002 := Aside0.mk (Kd.R_drew HO_266002.out)
                replace BK256 := Aside0.mk (blk_drew BK256.out)
                replace BK265 := Aside0.mk (blk_drew BK265.out)
                replace HB := Aside0.mk (below_drew1 HB.out)
                obtain ⟨Ao122, co122, eo122⟩ := Kd.R_slice HO_266002.out
                (first | subst eo122 | (injection eo122 with f1_ f2_ f3_; have f4_ := f1_.symm; have f5_ := f3_.symm; clear f1_ f2_ f3_; subst f4_; subst f5_))
                refine start_ (n := 6) (S := fun w' => w'.cell? ⟨gb265, 0, none⟩ = some (.string x266000_40) ∧ w'.cell? ⟨gb265, 1, none⟩ = some (.string x266001_40) ∧ w'.cell? ⟨gb265, 2, none⟩ = some (.slice Ao122 x266002_40.length co122) ∧ w'.cell? ⟨gb265, 3, none⟩ = some (.int .i64 x266003_40)) (ds := []) #[false, false, false, false, false, false] (by kernel_rfl) rfl rfl ⟨bc BK265 0, bc BK265 1, bc BK265 2, bc BK265 3⟩ (fun hHeld => ?_)
                generalize wc.drew = w121 at HO_266002 BK256 BK265 HB hHeld ⊢
                refine take_ (i := 0) (N := some 136) (v := ?_) (a' := ?_) #[true, false, false, false, false, false] rfl rfl (by kernel_rfl) (fun _ _ _ h => h) (Or.inl ⟨by rfl, ?_⟩) hHeld ?_ ?_
                rotate_left
                · rintro w' ⟨s0, s1, s2, s3⟩
                  go_simp
                  with_reducible rfl
                rotate_left
                · simp only [Act.put, List.setIfInBounds_toArray, List.set_cons_zero, List.set_cons_succ, i64_w, i32_w]
                  rfl
                refine take_ (i := 2) (N := some 138) (v := ?_) (a' := ?_) #[true, false, true, false, false, false] rfl rfl (by kernel_rfl) (fun _ _ _ h => h) (Or.inl ⟨by rfl, ?_⟩) hHeld ?_ ?_
                rotate_left
                · rintro w' ⟨s0, s1, s2, s3⟩
                  go_simp
                  with_reducible rfl
                rotate_left
                · simp only [Act.put, List.setIfInBounds_toArray, List.set_cons_zero, List.set_cons_succ, i64_w, i32_w]
                  rfl
                refine one_ (i := 1) (N := some 137) #[true, true, true, false, false, false] rfl rfl (by kernel_rfl) (by decide) (fun K hK => ?_)
                refine goes_ Tryd.func19 (by kernel_rfl) rfl #[.agg #[.string x266000_40, .string x266001_40, .slice Ao122 x266002_40.length co122, .int .i64 x266003_40]] (by rfl) rfl rfl (by (try simp only [List.map_toArray, List.map_cons, List.map_nil]); first | done | rfl | (simp only [List.length_drop, List.length_take]; rfl)) ?_
                with_reducible refine (spec_Route.calls kj40 x266000_40 x266001_40 _ _ x266002_40 x266003_40 t299 _ ?side3 ?side1 ?side2 A119.out).mono ?_
                (case side1 => repeat (first | exact (Kd.R_reads' HO_266002.out).2.2 | (with_reducible refine Kd.C_alloc ?_ _) | (with_reducible refine Kd.C_drewN ?_ _) | (with_reducible refine Kd.C_drew ?_)))
                (case side2 => exact (Kd.R_reads' HO_266002.out).2.1)
                (case side3 => first | exact hLd_.out | exact hLd_ | exact ⟨LaidW.below hLd_.out (by repeat (first | (with_reducible first | exact HB.out | apply below_alloc | apply pw_below_drewN | apply below_drew1 | refine below_set ?_ GE256.out | refine below_set ?_ GE265.out) | exact HB.out))⟩ | exact ⟨LaidW.below hLd_.out (by repeat (first | exact Below.refl _ _ | apply below_alloc | apply pw_below_drewN | apply below_drew1))⟩)
                rintro e w123 ⟨rfl, hb⟩
                refine ⟨_, rfl, ?_⟩
                replace HO_266002 := Aside0.mk (Kd.R_below (by (with_reducible repeat (first | apply Kd.R_alloc | apply Kd.R_drewN | apply Kd.R_drew)); exact HO_266002.out) hb)
                replace BK256 := Aside0.mk (blk_below (g := gb256) (pk BK256) hb)
                replace BK265 := Aside0.mk (blk_below (g := gb265) (pk BK265) hb)
                replace HB := Aside0.mk (below_step (by repeat (first | (with_reducible first | exact HB.out | apply below_alloc | apply pw_below_drewN | apply below_drew1 | refine below_set ?_ GE256.out | refine below_set ?_ GE265.out) | exact HB.out)) hb)
                (try clear hb)
                (try clear hb2)
                (try clear hk)
                (try clear hi)
                refine hK.out _ _ ⟨bc BK265 0, bc BK265 1, bc BK265 2, bc BK265 3⟩ (fun hHeld => ?_)
                clear hK K
                refine norm_ (a' := ?_) ?_ ?_
                rotate_left
                · show Act.put _ (some 137) _ = _
                  simp only [Act.put, List.setIfInBounds_toArray, List.set_cons_zero, List.set_cons_succ, i64_w, i32_w]
                  rfl
                refine one_ (i := 3) (N := some 139) #[true, true, true, true, false, false] rfl rfl (by kernel_rfl) (by decide) (fun K hK => ?_)
                refine goes_ Tryd.func20 (by kernel_rfl) rfl #[.agg #[.string x266000_40, .string x266001_40, .slice Ao122 x266002_40.length co122, .int .i64 x266003_40]] (by rfl) rfl rfl (by (try simp only [List.map_toArray, List.map_cons, List.map_nil]); first | done | rfl | (simp only [List.length_drop, List.length_take]; rfl)) ?_
                with_reducible refine (damperref2_Route.calls kj40 x266000_40 x266001_40 _ _ x266002_40 x266003_40 t300 _ ?side1 ?side2 A120.out).mono ?_
                (case side1 => repeat (first | exact (Kd.R_reads' HO_266002.out).2.2 | (with_reducible refine Kd.C_alloc ?_ _) | (with_reducible refine Kd.C_drewN ?_ _) | (with_reducible refine Kd.C_drew ?_)))
                (case side2 => exact (Kd.R_reads' HO_266002.out).2.1)
                rintro e w124 ⟨rfl, hb⟩
                refine ⟨_, rfl, ?_⟩
                replace HO_266002 := Aside0.mk (Kd.R_below (by (with_reducible repeat (first | apply Kd.R_alloc | apply Kd.R_drewN | apply Kd.R_drew)); exact HO_266002.out) hb)
                replace BK256 := Aside0.mk (blk_below (g := gb256) (pk BK256) hb)
                replace BK265 := Aside0.mk (blk_below (g := gb265) (pk BK265) hb)
                replace HB := Aside0.mk (below_step (by repeat (first | (with_reducible first | exact HB.out | apply below_alloc | apply pw_below_drewN | apply below_drew1 | refine below_set ?_ GE256.out | refine below_set ?_ GE265.out) | exact HB.out)) hb)
                (try clear hb)
                (try clear hb2)
                (try clear hk)
                (try clear hi)
                refine hK.out _ _ ⟨bc BK265 0, bc BK265 1, bc BK265 2, bc BK265 3⟩ (fun hHeld => ?_)
                clear hK K
                refine norm_ (a' := ?_) ?_ ?_
                rotate_left
                · show Act.put _ (some 139) _ = _
                  simp only [Act.put, List.setIfInBounds_toArray, List.set_cons_zero, List.set_cons_succ, i64_w, i32_w]
                  rfl
                refine pure_ (i := 4) (N := some 140) (v := ?_) (a' := ?_) #[true, true, true, true, true, false] rfl rfl (by kernel_rfl) (fun _ _ _ h => h) (Or.inl ⟨by rfl, ?_⟩) ?_ ?_
                rotate_left
                · intro w'
                  go_simp
                  with_reducible rfl
                rotate_left
                · simp only [Act.put, List.setIfInBounds_toArray, List.set_cons_zero, List.set_cons_succ, i64_w, i32_w]
                  rfl
                refine pure_ (i := 5) (N := some 16) (v := ?_) (a' := ?_) #[true, true, true, true, true, true] rfl rfl (by kernel_rfl) (fun _ _ _ h => h) (Or.inl ⟨by rfl, ?_⟩) ?_ ?_
                rotate_left
                · intro w'
                  go_simp
                  with_reducible rfl
                rotate_left
                · simp only [Act.put, List.setIfInBounds_toArray, List.set_cons_zero, List.set_cons_succ, i64_w, i32_w]
                  rfl
                refine done_ (by kernel_rfl) ?_
                try go_wp2_with (first | (go_at_call 15; refine (damperlaw2_within.keep _ _ rfl (by first | decide | assumption | exact wi_ne (by assumption) | exact wi_ne' (by assumption) | omega) _).mono ?_; rintro e w' ⟨rfl, rfl⟩))
                go_ret
                exact ⟨by first | rfl | (simp [errW_none, errW_some] <;> rfl) | (simp only [← hji39, ← hji40]; first | rfl | (simp [errW_none, errW_some] <;> rfl)) | (simp [*, errW_none, errW_some] <;> rfl), by repeat (first | (with_reducible first | exact HB.out | apply below_alloc | apply pw_below_drewN | apply below_drew1 | refine below_set ?_ GE256.out | refine below_set ?_ GE265.out) | exact HB.out)⟩
    · replace c12 := Bool.eq_false_iff.mpr c12
      subst c12
      have H1 : (some true) = some r := by rw [if_neg (show ¬ (false = true) by decide)] at H; exact H
      clear H
      have H := H1
      clear H1
      obtain rfl := Option.some.inj H
      go_enter Tryd.func4, Tryd.ntmps4
      go_wp2_with (first | (go_at_call 15; refine (damperlaw2_within.keep _ _ rfl (by first | decide | assumption | exact wi_ne (by assumption) | exact wi_ne' (by assumption) | omega) _).mono ?_; rintro e w' ⟨rfl, rfl⟩) | ((with_reducible refine gate_dst (N := 8) rfl ?_); refine box_event ?hg (N := 8) ?hd (cs := #[.string a0_0, .string a0_1, .slice A0_2 l0_2.length c0_2, .int .i64 a0_3]) (t := 35) ?hr ?_; (case hd => rfl); (case hg => rfl); (case hr => first | (go_simp; done) | (go_simp; rfl)); intro gb256 hg w125 hbox hb; have n0_ := Aside0.mk (below_step (by repeat (first | (with_reducible first | exact HB.out | apply below_alloc | apply pw_below_drewN | apply below_drew1) | exact HB.out)) hb); have n1_ := Aside0.mk (hbox); have n2_ := Aside0.mk ((by rw [hg]; exact (below_size (by repeat (first | (with_reducible first | exact HB.out | apply below_alloc | apply pw_below_drewN | apply below_drew1) | exact HB.out))) : w.heap.size ≤ gb256)); have n3_ := Aside0.mk ((by rw [hg]; exact (below_size (by repeat (first | (with_reducible first | exact HB.out | apply below_alloc | apply pw_below_drewN | apply below_drew1) | exact HB.out))) : w.heap.size ≤ gb256)); clear HB; have HB := n0_; have BK256 := n1_; have GW256 := n2_; have GE256 := n3_; clear n0_ n1_ n2_ n3_; clear hb hbox hg) | ((with_reducible refine gate_callee (f := 11) rfl ?_); refine goesL_ (some 19) rfl rfl Tryd.func11 (by kernel_rfl) rfl #[] rfl (by (try simp only [List.map_toArray, List.map_cons, List.map_nil]); first | done | rfl | (simp only [List.length_drop, List.length_take]; rfl)) ?_; (with_reducible refine (damperlaw2_known.calls k  true _ ?side1 A9.out).mono ?_); (case side1 => first | exact hLd_.out | exact hLd_ | exact ⟨LaidW.below hLd_.out (by repeat (first | (with_reducible first | exact HB.out | apply below_alloc | apply pw_below_drewN | apply below_drew1 | refine below_set ?_ GE256.out) | exact HB.out))⟩ | exact ⟨LaidW.below hLd_.out (by repeat (first | exact Below.refl _ _ | apply below_alloc | apply pw_below_drewN | apply below_drew1))⟩); rintro e w126 ⟨rfl, hb⟩; refine ⟨_, rfl, ?_⟩; have n0_ := Aside0.mk (blk_below (g := gb256) (pk BK256) hb); have n1_ := Aside0.mk (below_step (by repeat (first | (with_reducible first | exact HB.out | apply below_alloc | apply pw_below_drewN | apply below_drew1 | refine below_set ?_ GE256.out) | exact HB.out)) hb); clear BK256; clear HB; have BK256 := n0_; have HB := n1_; clear n0_ n1_; (try clear hb); (try clear hb2); (try clear hk); (try clear hi); have hcz127_0 : w126.cell? ⟨gb256, 0, none⟩ = some (.string a0_0) := bc BK256 0; have hcz127_1 : w126.cell? ⟨gb256, 1, none⟩ = some (.string a0_1) := bc BK256 1; have hcz127_2 : w126.cell? ⟨gb256, 2, none⟩ = some (.slice A0_2 l0_2.length c0_2) := bc BK256 2; have hcz127_3 : w126.cell? ⟨gb256, 3, none⟩ = some (.int .i64 a0_3) := bc BK256 3; have hfz127_0 := blk_frozen BK256.out 0; have hfz127_1 := blk_frozen BK256.out 1; have hfz127_2 := blk_frozen BK256.out 2; have hfz127_3 := blk_frozen BK256.out 3) | ((with_reducible refine gate_callee (f := 17) rfl ?_); refine goesL_ (some 22) rfl rfl Tryd.func17 (by kernel_rfl) rfl #[.agg #[.string a0_0, .string a0_1, .slice A0_2 l0_2.length c0_2, .int .i64 a0_3]] rfl (by (try simp only [List.map_toArray, List.map_cons, List.map_nil]); first | done | rfl | (simp only [List.length_drop, List.length_take]; rfl)) ?_; (with_reducible refine (damperlaw2_Few.calls a0_0 a0_1 _ _ l0_2 a0_3 false _ ?side1 ?side2 A11.out).mono ?_); (case side1 => repeat (first | exact (Kd.C_below HR0_2.out HB.out) | (with_reducible refine Kd.C_alloc ?_ _) | (with_reducible refine Kd.C_drewN ?_ _) | (with_reducible refine Kd.C_drew ?_))); (case side2 => exact HC0_2.out); rintro e w128 ⟨rfl, hb⟩; refine ⟨_, rfl, ?_⟩; have n0_ := Aside0.mk (blk_below (g := gb256) (pk BK256) hb); have n1_ := Aside0.mk (below_step (by repeat (first | (with_reducible first | exact HB.out | apply below_alloc | apply pw_below_drewN | apply below_drew1 | refine below_set ?_ GE256.out) | exact HB.out)) hb); clear BK256; clear HB; have BK256 := n0_; have HB := n1_; clear n0_ n1_; (try clear hb); (try clear hb2); (try clear hk); (try clear hi)))
      go_ret
      exact ⟨by first | rfl | (simp [errW_none, errW_some] <;> rfl) | (simp [*, errW_none, errW_some] <;> rfl), by repeat (first | (with_reducible first | exact HB.out | apply below_alloc | apply pw_below_drewN | apply below_drew1 | refine below_set ?_ GE256.out) | exact HB.out)⟩
  · replace c10 := Bool.eq_false_iff.mpr c10
    subst c10
    have H1 : (some false) = some r := by rw [if_neg (show ¬ (false = true) by decide)] at H; exact H
    clear H
    have H := H1
    clear H1
    exact absurd (Option.some.inj H) (by rw [hr0_.out]; decide)

def damperlaw2_SpecRoutes.B41 (x : S41) : Prop := (x.f0.size ≤ 140737488351232) ∧ (x.f1.size ≤ 140737488351232) ∧ ((Lit.int .i64 x.f2).wf = true)
/-- THE ONE PURE STATEMENT of damperlaw2_SpecRoutes: yours. -/
def damperlaw2_SpecRoutes.Pure : Prop := ∀ (a0_0 : ByteArray) (a0_1 : ByteArray) (l0_2 : List (S41)) (a0_3 : Int) (a1 : Int) (l2 : List Int) (a3 : Int) (a4 : Int) (a5 : Int) (a6 : Int) (l7 : List Int), (a0_0.size ≤ maxLen) → (a0_1.size ≤ maxLen) → (l0_2.length ≤ maxLen ∧ ∀ y_ ∈ l0_2, damperlaw2_SpecRoutes.B41 y_) → ((Lit.int .i64 a0_3).wf = true) → ((Lit.int .i64 a1).wf = true) → (l2.length ≤ maxLen ∧ ∀ y_ ∈ l2, (Lit.int .i64 y_).wf = true) → ((Lit.int .i64 a3).wf = true) → ((Lit.int .i64 a4).wf = true) → ((Lit.int .i64 a5).wf = true) → ((Lit.int .i64 a6).wf = true) → (l7.length ≤ maxLen ∧ ∀ y_ ∈ l7, (Lit.int .i64 y_).wf = true) → ∃ k, damperlaw2_SpecRoutes.f k a0_0 a0_1 l0_2 a0_3 a1 l2 a3 a4 a5 a6 l7 = some true
theorem damperlaw2_SpecRoutes.walk (P : damperlaw2_SpecRoutes.Pure) (a0_0 : ByteArray) (a0_1 : ByteArray) (A0_2 : Option Addr) (c0_2 : Nat) (l0_2 : List (S41)) (a0_3 : Int) (a1 : Int) (A2 : Option Addr) (c2 : Nat) (l2 : List Int) (a3 : Int) (a4 : Int) (a5 : Int) (a6 : Int) (A7 : Option Addr) (c7 : Nat) (l7 : List Int) (w : World) (hLd_ : LaidW w) (w0_0 : a0_0.size ≤ maxLen) (w0_1 : a0_1.size ≤ maxLen) (w0_2 : l0_2.length ≤ maxLen ∧ ∀ y_ ∈ l0_2, damperlaw2_SpecRoutes.B41 y_) (w0_3 : (Lit.int .i64 a0_3).wf = true) (w1 : (Lit.int .i64 a1).wf = true) (w2 : l2.length ≤ maxLen ∧ ∀ y_ ∈ l2, (Lit.int .i64 y_).wf = true) (w3 : (Lit.int .i64 a3).wf = true) (w4 : (Lit.int .i64 a4).wf = true) (w5 : (Lit.int .i64 a5).wf = true) (w6 : (Lit.int .i64 a6).wf = true) (w7 : l7.length ≤ maxLen ∧ ∀ y_ ∈ l7, (Lit.int .i64 y_).wf = true) (hr0_2 : Kd.C k41 w A0_2 l0_2.length l0_2) (hc0_2 : l0_2.length ≤ c0_2) (hr2 : Kd.C (Kd.int .i64) w A2 l2.length l2) (hc2 : l2.length ≤ c2) (hr7 : Kd.C (Kd.int .i64) w A7 l7.length l7) (hc7 : l7.length ≤ c7) :
    Calls Tryd.prog 4 #[.agg #[.string a0_0, .string a0_1, .slice A0_2 l0_2.length c0_2, .int .i64 a0_3], .int .i64 a1, .slice A2 l2.length c2, .int .i64 a3, .int .i64 a4, .int .i64 a5, .int .i64 a6, .slice A7 l7.length c7] w fun e w' => e = .returned (.bool true) ∧ Below w.heap.size w w' := by
  obtain ⟨k, h⟩ := P a0_0 a0_1 l0_2 a0_3 a1 l2 a3 a4 a5 a6 l7 w0_0 w0_1 w0_2 w0_3 w1 w2 w3 w4 w5 w6 w7
  refine (damperlaw2_SpecRoutes.calls k a0_0 a0_1 A0_2 c0_2 l0_2 a0_3 a1 A2 c2 l2 a3 a4 a5 a6 A7 c7 l7 true w ⟨hLd_⟩ hr0_2 hc0_2 hr2 hc2 hr7 hc7 ⟨rfl⟩ h).mono ?_
  rintro e w' ⟨rfl, hd⟩
  exact ⟨rfl, hd⟩

end Go.Proofs.YthdpnbfjpbiieaaDoor.Ma
