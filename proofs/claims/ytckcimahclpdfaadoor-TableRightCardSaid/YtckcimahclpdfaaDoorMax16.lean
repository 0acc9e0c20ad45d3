-- Written by a program of this session (wip/tools/myprint.py), in the form of the kit's print. Not trusted: Lean checks it.
import Derived.Test.YtckcimahclpdfaaDoorMax0
import Derived.Test.YtckcimahclpdfaaDoorMax7
import Derived.Test.YtckcimahclpdfaaDoorMax8
import Derived.Test.YtckcimahclpdfaaDoorMax9
import Derived.Test.YtckcimahclpdfaaDoorMax10
import Derived.Test.YtckcimahclpdfaaDoorMax14
import Derived.Test.YtckcimahclpdfaaDoorMax15
namespace Go.Proofs.YtckcimahclpdfaaDoor.Ma
open Go.RowKit Go.Proofs.YtckcimahclpdfaaDoorW.PrintWords Go.Proofs.YtckcimahclpdfaaDoorW.PrintLast Go.Proofs.YtckcimahclpdfaaDoorW.PrintMore
attribute [local go_sem] max2_int min2_int max_two min_two max_three min_three max_four min_four   -- for this text's walks alone
set_option linter.unusedVariables false
set_option linter.unusedSimpArgs false

theorem swp_some {W : World} {p q : Addr} {u x y : Value} (hp : W.cell? p = some x) (hq : W.cell? q = some y) : ∃ z, (W.setCell p u).cell? q = some z := by
  by_cases h : p = q
  · subst h; exact ⟨u, World.cell?_setCell_same' W p u (by rw [hp]; rfl)⟩
  · exact ⟨y, (World.cell?_setCell_other W p q u h).trans hq⟩
theorem swp_far {W : World} {b o : Nat} {p q : Addr} {u v : Value} {r : Option Value} (hp : ¬ b = p.block) (hq : ¬ b = q.block) (h : W.cell? ⟨b, o, none⟩ = r) : ((W.setCell p u).setCell q v).cell? ⟨b, o, none⟩ = r := by
  rw [World.cell?_setCell_other _ q ⟨b, o, none⟩ _ (by rintro rfl; exact hq rfl), World.cell?_setCell_other _ p ⟨b, o, none⟩ _ (by rintro rfl; exact hp rfl)]
  exact h
/-! ### damperlaw5_TableRight: function 3 -/
mutual
def damperlaw5_TableRight.j0 : Nat → Int → Int → Int → List Int → Bool → List (S32) → List (S35) → Option (Bool)
  | 0, _, _, _, _, _, _, _ => none
  | k + 1, x3, x4, x5, x6, x34, x255000, x255001 => if x34 = true then (some false) else (if (x255000.length : Int) = 0 then (none) else (if (wi x3 7) = 0 then (if 0 ≤ (wi x4 (x255000.length : Int)) then (if (wi x4 (x255000.length : Int)) < (x255000.length : Int) then ((some (([0, (-1), 100, 101, wrap64 (((rd_T32 x255000 (wi x4 (x255000.length : Int))).f1) + 1), x5] : List Int) : List Int)).bind fun y259 => (if 0 ≤ (wi x5 6) then (if (wi x5 6) < (y259.length : Int) then (damperlaw5_TableRight.j1 k (x255000.set ((wi x4 (x255000.length : Int)) : Int).toNat (⟨(rd_T32 x255000 (wi x4 (x255000.length : Int))).f0, rd y259 (wi x5 6)⟩ : S32)) x255001) else (none)) else (none))) else (none)) else (none)) else (if (wi x3 7) = 1 then ((damperlaw1_Text.f k x6).bind fun t264 => (if 4 + t264.size ≤ 9223372036854775807 then (if 0 ≤ (wi x4 (x255000.length : Int)) then (if (wi x4 (x255000.length : Int)) < (x255000.length : Int) then (damperlaw5_TableRight.j1 k (x255000.set ((wi x4 (x255000.length : Int)) : Int).toNat (⟨(⟨#[119, 101, 98, 45]⟩ : ByteArray) ++ t264, (rd_T32 x255000 (wi x4 (x255000.length : Int))).f1⟩ : S32)) x255001) else (none)) else (none)) else (none))) else (if (wi x3 7) = 2 then (if 0 < (x255000.length : Int) then (if 0 ≤ (wi x4 (x255000.length : Int)) then (if (wi x4 (x255000.length : Int)) < (x255000.length : Int) then (damperlaw5_TableRight.j1 k ((x255000.set ((wi x4 (x255000.length : Int)) : Int).toNat (⟨(rd_T32 x255000 0).f0, (rd_T32 x255000 0).f1⟩ : S32)).set (0 : Int).toNat (⟨(rd_T32 x255000 (wi x4 (x255000.length : Int))).f0, (rd_T32 x255000 (wi x4 (x255000.length : Int))).f1⟩ : S32)) x255001) else (none)) else (none)) else (none)) else (if (wi x3 7) = 3 then (if x255000.length < 5864062014805 then (damperlaw5_TableRight.j1 k (x255000 ++ [(⟨(⟨#[119, 101, 98, 45, 57]⟩ : ByteArray), 0⟩ : S32)]) x255001) else (none)) else (if (wi x3 7) = 4 then ((damperlaw1_Text.f k x6).bind fun t273 => (if x255001.length < 4398046511104 then (damperlaw5_TableRight.j1 k x255000 (x255001 ++ [(⟨t273, (⟨#[119, 101, 98, 45, 49]⟩ : ByteArray)⟩ : S35)])) else (none))) else (if (wi x3 7) = 5 then ((damperlaw1_Text.f k x6).bind fun t277 => (if t277.size + 2 ≤ 9223372036854775807 then (if x255001.length < 4398046511104 then (damperlaw5_TableRight.j1 k x255000 (x255001 ++ [(⟨(⟨#[116, 57]⟩ : ByteArray), t277 ++ (⟨#[45, 49]⟩ : ByteArray)⟩ : S35)])) else (none)) else (none))) else (if (wi x3 7) = 6 then (if 0 ≤ (wi x5 (x255000.length : Int)) then (if (wi x5 (x255000.length : Int)) ≤ (x255000.length : Int) then (damperlaw5_TableRight.j1 k (x255000.take ((wi x5 (x255000.length : Int)) : Int).toNat) x255001) else (none)) else (none)) else (damperlaw5_TableRight.j1 k x255000 x255001)))))))))
def damperlaw5_TableRight.j1 : Nat → List (S32) → List (S35) → Option (Bool)
  | 0, _, _ => none
  | k + 1, x255000, x255001 => (table_Right.f x255000 x255001).bind fun t284 => ((damperref5_Right.f k x255000 x255001).bind fun t285 => (some (t284 == t285)))
end
def damperlaw5_TableRight.f (k : Nat) (l0_0 : List (S32)) (l0_1 : List (S35)) (l1 : List Int) (l2 : List Int) (a3 : Int) (a4 : Int) (a5 : Int) (l6 : List Int) : Option (Bool) := (damperlaw5_known.f k).bind fun t246 => (if t246 = true then ((damperlaw5_Few.f k l0_0 l0_1).bind fun t247 => (if t247 = true then ((damperlaw5_Make.f k l1 l2).bind fun bt248 => ((table_Right.f l0_0 l0_1).bind fun t255 => ((damperref5_Right.f k l0_0 l0_1).bind fun t256 => (if (t255 != t256) = true then (damperlaw5_TableRight.j0 k a3 a4 a5 l6 true bt248.1 bt248.2) else ((table_Right.f bt248.1 bt248.2).bind fun t257 => (damperlaw5_TableRight.j0 k a3 a4 a5 l6 (!t257) bt248.1 bt248.2)))))) else (some true))) else (some false))
theorem damperlaw5_TableRight.mono_l : ∀ k, (∀ y0 y1 y2 y3 y4 y5 y6, LeO (damperlaw5_TableRight.j0 k y0 y1 y2 y3 y4 y5 y6) (damperlaw5_TableRight.j0 (k + 1) y0 y1 y2 y3 y4 y5 y6)) ∧ (∀ y0 y1, LeO (damperlaw5_TableRight.j1 k y0 y1) (damperlaw5_TableRight.j1 (k + 1) y0 y1))
  | 0 => ⟨fun _ _ _ _ _ _ _ r h => by simp [damperlaw5_TableRight.j0] at h, fun _ _ r h => by simp [damperlaw5_TableRight.j1] at h⟩
  | k + 1 => by
    obtain ⟨ih0, ih1⟩ := damperlaw5_TableRight.mono_l k
    refine ⟨?_, ?_⟩
    · intro y0 y1 y2 y3 y4 y5 y6
      unfold damperlaw5_TableRight.j0
      repeat' first
      | (with_reducible exact ih0 _ _ _ _ _ _ _)
      | (with_reducible exact ih1 _ _)
      | (with_reducible exact damperlaw1_Text.mono _ _)
      | (with_reducible exact damperlaw5_Few.mono _ _ _)
      | (with_reducible exact damperlaw5_Make.mono _ _ _)
      | (with_reducible exact damperlaw5_known.mono _)
      | (with_reducible exact damperref5_Right.mono _ _ _)
      | (with_reducible exact LeO.refl _)
      | (with_reducible exact LeO.none _)
      | (with_reducible refine LeO.ite ?_ ?_)
      | (with_reducible refine LeO.bind ?_ (fun _ => ?_))
      | exact ih0 _ _ _ _ _ _ _
      | exact ih1 _ _
      | exact damperlaw1_Text.mono _ _
      | exact damperlaw5_Few.mono _ _ _
      | exact damperlaw5_Make.mono _ _ _
      | exact damperlaw5_known.mono _
      | exact damperref5_Right.mono _ _ _
      | exact LeO.none _
      | refine LeO.ite ?_ ?_
      | refine LeO.bind ?_ (fun _ => ?_)
    · intro y0 y1
      unfold damperlaw5_TableRight.j1
      repeat' first
      | (with_reducible exact ih0 _ _ _ _ _ _ _)
      | (with_reducible exact ih1 _ _)
      | (with_reducible exact damperlaw1_Text.mono _ _)
      | (with_reducible exact damperlaw5_Few.mono _ _ _)
      | (with_reducible exact damperlaw5_Make.mono _ _ _)
      | (with_reducible exact damperlaw5_known.mono _)
      | (with_reducible exact damperref5_Right.mono _ _ _)
      | (with_reducible exact LeO.refl _)
      | (with_reducible exact LeO.none _)
      | (with_reducible refine LeO.ite ?_ ?_)
      | (with_reducible refine LeO.bind ?_ (fun _ => ?_))
      | exact ih0 _ _ _ _ _ _ _
      | exact ih1 _ _
      | exact damperlaw1_Text.mono _ _
      | exact damperlaw5_Few.mono _ _ _
      | exact damperlaw5_Make.mono _ _ _
      | exact damperlaw5_known.mono _
      | exact damperref5_Right.mono _ _ _
      | exact LeO.none _
      | refine LeO.ite ?_ ?_
      | refine LeO.bind ?_ (fun _ => ?_)
theorem damperlaw5_TableRight.mono : ∀ a0 a1 a2 a3 a4 a5 a6 a7 k, LeO (damperlaw5_TableRight.f k a0 a1 a2 a3 a4 a5 a6 a7) (damperlaw5_TableRight.f (k + 1) a0 a1 a2 a3 a4 a5 a6 a7) := by
  intro a0 a1 a2 a3 a4 a5 a6 a7 k
  obtain ⟨ih0, ih1⟩ := damperlaw5_TableRight.mono_l k
  unfold damperlaw5_TableRight.f
  repeat' first
      | (with_reducible exact ih0 _ _ _ _ _ _ _)
      | (with_reducible exact ih1 _ _)
      | (with_reducible exact damperlaw1_Text.mono _ _)
      | (with_reducible exact damperlaw5_Few.mono _ _ _)
      | (with_reducible exact damperlaw5_Make.mono _ _ _)
      | (with_reducible exact damperlaw5_known.mono _)
      | (with_reducible exact damperref5_Right.mono _ _ _)
      | (with_reducible exact LeO.refl _)
      | (with_reducible exact LeO.none _)
      | (with_reducible refine LeO.ite ?_ ?_)
      | (with_reducible refine LeO.bind ?_ (fun _ => ?_))
      | exact ih0 _ _ _ _ _ _ _
      | exact ih1 _ _
      | exact damperlaw1_Text.mono _ _
      | exact damperlaw5_Few.mono _ _ _
      | exact damperlaw5_Make.mono _ _ _
      | exact damperlaw5_known.mono _
      | exact damperref5_Right.mono _ _ _
      | exact LeO.none _
      | refine LeO.ite ?_ ?_
      | refine LeO.bind ?_ (fun _ => ?_)
def damperlaw5_TableRight.T6 : Bool × List (List Nat × List Nat) := (true, [([], []), ([0], [0]), ([], []), ([2, 1], [2]), ([1, 3], [1, 3]), ([4, 3], [4]), ([5], [5]), ([6, 5, 5], [5, 6]), ([7, 5], [5, 7]), ([5, 8], [5, 8])])
def damperlaw5_TableRight.B6 : List Nat := [0, 1, 0, 7, 15, 31, 63, 127, 255, 511]
theorem damperlaw5_TableRight.tab6 : rtab .any (opsOf Tryd.f3 6) = damperlaw5_TableRight.T6 := by kernel_rfl
theorem damperlaw5_TableRight.bits6 : waitsOk damperlaw5_TableRight.T6.2 damperlaw5_TableRight.B6 = true := by kernel_rfl
def damperlaw5_TableRight.T11 : Bool × List (List Nat × List Nat) := (true, [([], []), ([0], [0]), ([], []), ([], []), ([3], [3]), ([], []), ([4, 5], [4, 5]), ([6], [6]), ([7], [7]), ([8], [8]), ([], []), ([9, 10], [9, 10]), ([], []), ([12], [12]), ([11, 13], [11, 13]), ([14], [14]), ([1, 2, 0, 1, 2, 3, 4, 5, 6, 7, 8, 9, 10, 11, 12, 13, 14, 15], [1, 2]), ([16, 0, 1, 2, 3, 4, 5, 6, 7, 8, 9, 10, 11, 12, 13, 14, 15], [16]), ([17, 15, 13, 0, 1, 2, 3, 4, 5, 6, 7, 8, 9, 10, 11, 12, 13, 14, 15], [15, 17])])
def damperlaw5_TableRight.B11 : List Nat := [0, 1, 0, 0, 8, 0, 56, 120, 248, 504, 0, 2040, 0, 4096, 16376, 32760, 65535, 131071, 262143]
theorem damperlaw5_TableRight.tab11 : rtab .any (opsOf Tryd.f3 11) = damperlaw5_TableRight.T11 := by kernel_rfl
theorem damperlaw5_TableRight.bits11 : waitsOk damperlaw5_TableRight.T11.2 damperlaw5_TableRight.B11 = true := by kernel_rfl
def damperlaw5_TableRight.T13 : Bool × List (List Nat × List Nat) := (true, [([], []), ([0], [0]), ([], []), ([], []), ([3], [3]), ([4], [4]), ([1, 2, 0, 1, 2, 3, 4, 5], [1, 2]), ([6, 0, 1, 2, 3, 4, 5], [6]), ([7, 5, 4, 0, 1, 2, 3, 4, 5], [5, 7])])
def damperlaw5_TableRight.B13 : List Nat := [0, 1, 0, 0, 8, 24, 63, 127, 255]
theorem damperlaw5_TableRight.tab13 : rtab .any (opsOf Tryd.f3 13) = damperlaw5_TableRight.T13 := by kernel_rfl
theorem damperlaw5_TableRight.bits13 : waitsOk damperlaw5_TableRight.T13.2 damperlaw5_TableRight.B13 = true := by kernel_rfl
def damperlaw5_TableRight.T15 : Bool × List (List Nat × List Nat) := (true, [([], []), ([0], [0]), ([], []), ([], []), ([3], [3]), ([], []), ([5], [5]), ([6], [6]), ([7], [7]), ([], []), ([9], [9]), ([], []), ([10, 11], [10, 11]), ([12], [12]), ([1, 2, 0, 1, 2, 5, 6, 7, 8, 13], [1, 2]), ([14, 8, 0, 1, 2, 5, 6, 7, 8, 13], [8, 14]), ([4, 0, 1, 2, 3, 4, 5, 6, 7, 8, 9, 10, 11, 12, 13, 14, 15], [4]), ([16, 13, 15, 0, 1, 2, 3, 4, 5, 6, 7, 8, 9, 10, 11, 12, 13, 14, 15], [13, 16])])
def damperlaw5_TableRight.B15 : List Nat := [0, 1, 0, 0, 8, 0, 32, 96, 224, 0, 512, 0, 3584, 7680, 16359, 32743, 65535, 131071]
theorem damperlaw5_TableRight.tab15 : rtab .any (opsOf Tryd.f3 15) = damperlaw5_TableRight.T15 := by kernel_rfl
theorem damperlaw5_TableRight.bits15 : waitsOk damperlaw5_TableRight.T15.2 damperlaw5_TableRight.B15 = true := by kernel_rfl
def damperlaw5_TableRight.T19 : Bool × List (List Nat × List Nat) := (true, [([], []), ([0], [0]), ([], []), ([2], [2]), ([3], [3]), ([4], [4]), ([1, 5, 3], [1, 5]), ([0, 1, 2, 3, 4, 5, 6], []), ([7, 6, 6, 0, 1, 2, 3, 4, 5, 6], [6, 7])])
def damperlaw5_TableRight.B19 : List Nat := [0, 1, 0, 4, 12, 28, 63, 127, 255]
theorem damperlaw5_TableRight.tab19 : rtab .any (opsOf Tryd.f3 19) = damperlaw5_TableRight.T19 := by kernel_rfl
theorem damperlaw5_TableRight.bits19 : waitsOk damperlaw5_TableRight.T19.2 damperlaw5_TableRight.B19 = true := by kernel_rfl
def damperlaw5_TableRight.T21 : Bool × List (List Nat × List Nat) := (true, [([], []), ([0], [0]), ([], []), ([2], [2]), ([3], [3]), ([4], [4]), ([5], [5]), ([1, 6, 3], [1, 6]), ([0, 1, 2, 3, 4, 5, 6, 7], []), ([8, 7, 7, 0, 1, 2, 3, 4, 5, 6, 7], [7, 8])])
def damperlaw5_TableRight.B21 : List Nat := [0, 1, 0, 4, 12, 28, 60, 127, 255, 511]
theorem damperlaw5_TableRight.tab21 : rtab .any (opsOf Tryd.f3 21) = damperlaw5_TableRight.T21 := by kernel_rfl
theorem damperlaw5_TableRight.bits21 : waitsOk damperlaw5_TableRight.T21.2 damperlaw5_TableRight.B21 = true := by kernel_rfl
def damperlaw5_TableRight.T23 : Bool × List (List Nat × List Nat) := (true, [([], []), ([0], [0]), ([], []), ([], []), ([3], [3]), ([4], [4]), ([2, 5], [2, 5]), ([1, 6], [1, 6]), ([0, 1, 2, 3, 4, 5, 6, 7], []), ([8, 7, 6, 0, 1, 2, 3, 4, 5, 6, 7], [7, 8])])
def damperlaw5_TableRight.B23 : List Nat := [0, 1, 0, 0, 8, 24, 60, 127, 255, 511]
theorem damperlaw5_TableRight.tab23 : rtab .any (opsOf Tryd.f3 23) = damperlaw5_TableRight.T23 := by kernel_rfl
theorem damperlaw5_TableRight.bits23 : waitsOk damperlaw5_TableRight.T23.2 damperlaw5_TableRight.B23 = true := by kernel_rfl
set_option maxHeartbeats 8000000 in
set_option maxRecDepth 100000 in
theorem damperlaw5_TableRight.calls (k : Nat) (A0_0 : Option Addr) (c0_0 : Nat) (l0_0 : List (S32)) (A0_1 : Option Addr) (c0_1 : Nat) (l0_1 : List (S35)) (A1 : Option Addr) (c1 : Nat) (l1 : List Int) (A2 : Option Addr) (c2 : Nat) (l2 : List Int) (a3 : Int) (a4 : Int) (a5 : Int) (A6 : Option Addr) (c6 : Nat) (l6 : List Int) (r : Bool) (w : World) (hLd_ : Aside0 (LaidW w)) (hr0_0 : Kd.C k32 w A0_0 l0_0.length l0_0) (hc0_0 : l0_0.length ≤ c0_0) (hr0_1 : Kd.C k35 w A0_1 l0_1.length l0_1) (hc0_1 : l0_1.length ≤ c0_1) (hr1 : Kd.C (Kd.int .i64) w A1 l1.length l1) (hc1 : l1.length ≤ c1) (hr2 : Kd.C (Kd.int .i64) w A2 l2.length l2) (hc2 : l2.length ≤ c2) (hr6 : Kd.C (Kd.int .i64) w A6 l6.length l6) (hc6 : l6.length ≤ c6) (hr0_ : Aside0 (r = true)) (h : damperlaw5_TableRight.f k l0_0 l0_1 l1 l2 a3 a4 a5 l6 = some r) :
    Calls Tryd.prog 3 #[.agg #[.slice A0_0 l0_0.length c0_0, .slice A0_1 l0_1.length c0_1], .slice A1 l1.length c1, .slice A2 l2.length c2, .int .i64 a3, .int .i64 a4, .int .i64 a5, .slice A6 l6.length c6] w fun e w' => e = .returned (.bool r) ∧ Below w.heap.size w w' := by
  have hu25 := Tryd.underlying25
  have hu32 := Tryd.underlying32
  have hu35 := Tryd.underlying35
  have HR0_0 := Aside0.mk hr0_0
  have HC0_0 := Aside0.mk hc0_0
  clear hr0_0 hc0_0
  have HR0_1 := Aside0.mk hr0_1
  have HC0_1 := Aside0.mk hc0_1
  clear hr0_1 hc0_1
  have HR1 := Aside0.mk hr1
  have HC1 := Aside0.mk hc1
  clear hr1 hc1
  have HR2 := Aside0.mk hr2
  have HC2 := Aside0.mk hc2
  clear hr2 hc2
  have HR6 := Aside0.mk hr6
  have HC6 := Aside0.mk hc6
  clear hr6 hc6
  have HB := Aside0.mk (Below.refl w.heap.size w)
  have H : ((damperlaw5_known.f k).bind fun t246 => (if t246 = true then ((damperlaw5_Few.f k l0_0 l0_1).bind fun t247 => (if t247 = true then ((damperlaw5_Make.f k l1 l2).bind fun bt248 => ((table_Right.f l0_0 l0_1).bind fun t255 => ((damperref5_Right.f k l0_0 l0_1).bind fun t256 => (if (t255 != t256) = true then (damperlaw5_TableRight.j0 k a3 a4 a5 l6 true bt248.1 bt248.2) else ((table_Right.f bt248.1 bt248.2).bind fun t257 => (damperlaw5_TableRight.j0 k a3 a4 a5 l6 (!t257) bt248.1 bt248.2)))))) else (some true))) else (some false))) = some r := h
  clear h
  replace H := Option.bind_eq_some_iff.mp H
  obtain ⟨t246, A80, H⟩ := H
  replace H : (if t246 = true then ((damperlaw5_Few.f k l0_0 l0_1).bind fun t247 => (if t247 = true then ((damperlaw5_Make.f k l1 l2).bind fun bt248 => ((table_Right.f l0_0 l0_1).bind fun t255 => ((damperref5_Right.f k l0_0 l0_1).bind fun t256 => (if (t255 != t256) = true then (damperlaw5_TableRight.j0 k a3 a4 a5 l6 true bt248.1 bt248.2) else ((table_Right.f bt248.1 bt248.2).bind fun t257 => (damperlaw5_TableRight.j0 k a3 a4 a5 l6 (!t257) bt248.1 bt248.2)))))) else (some true))) else (some false)) = some r := H
  have A8 := Aside0.mk A80
  clear A80
  by_cases c9 : t246 = true
  · subst c9
    have H1 : ((damperlaw5_Few.f k l0_0 l0_1).bind fun t247 => (if t247 = true then ((damperlaw5_Make.f k l1 l2).bind fun bt248 => ((table_Right.f l0_0 l0_1).bind fun t255 => ((damperref5_Right.f k l0_0 l0_1).bind fun t256 => (if (t255 != t256) = true then (damperlaw5_TableRight.j0 k a3 a4 a5 l6 true bt248.1 bt248.2) else ((table_Right.f bt248.1 bt248.2).bind fun t257 => (damperlaw5_TableRight.j0 k a3 a4 a5 l6 (!t257) bt248.1 bt248.2)))))) else (some true))) = some r := by rw [if_pos rfl] at H; exact H
    clear H
    have H := H1
    clear H1
    replace H := Option.bind_eq_some_iff.mp H
    obtain ⟨t247, A100, H⟩ := H
    replace H : (if t247 = true then ((damperlaw5_Make.f k l1 l2).bind fun bt248 => ((table_Right.f l0_0 l0_1).bind fun t255 => ((damperref5_Right.f k l0_0 l0_1).bind fun t256 => (if (t255 != t256) = true then (damperlaw5_TableRight.j0 k a3 a4 a5 l6 true bt248.1 bt248.2) else ((table_Right.f bt248.1 bt248.2).bind fun t257 => (damperlaw5_TableRight.j0 k a3 a4 a5 l6 (!t257) bt248.1 bt248.2)))))) else (some true)) = some r := H
    have A10 := Aside0.mk A100
    clear A100
    by_cases c11 : t247 = true
    · subst c11
      have H1 : ((damperlaw5_Make.f k l1 l2).bind fun bt248 => ((table_Right.f l0_0 l0_1).bind fun t255 => ((damperref5_Right.f k l0_0 l0_1).bind fun t256 => (if (t255 != t256) = true then (damperlaw5_TableRight.j0 k a3 a4 a5 l6 true bt248.1 bt248.2) else ((table_Right.f bt248.1 bt248.2).bind fun t257 => (damperlaw5_TableRight.j0 k a3 a4 a5 l6 (!t257) bt248.1 bt248.2)))))) = some r := by rw [if_pos rfl] at H; exact H
      clear H
      have H := H1
      clear H1
      replace H := Option.bind_eq_some_iff.mp H
      obtain ⟨⟨t248, t251⟩, A120, H⟩ := H
      replace H : ((table_Right.f l0_0 l0_1).bind fun t255 => ((damperref5_Right.f k l0_0 l0_1).bind fun t256 => (if (t255 != t256) = true then (damperlaw5_TableRight.j0 k a3 a4 a5 l6 true t248 t251) else ((table_Right.f t248 t251).bind fun t257 => (damperlaw5_TableRight.j0 k a3 a4 a5 l6 (!t257) t248 t251))))) = some r := H
      have A12 := Aside0.mk A120
      clear A120
      have HC13 := Aside0.mk H
      clear H
      go_enter Tryd.func3, Tryd.ntmps3
      go_upto_region 6 with (first | (go_at_call 14; refine (damperlaw5_within.keep _ _ rfl (by first | decide | assumption | exact wi_ne (by assumption) | exact wi_ne' (by assumption) | omega) _).mono ?_; rintro e w' ⟨rfl, rfl⟩) | ((with_reducible refine gate_dst (N := 7) rfl ?_); refine box_event ?hg (N := 7) ?hd (cs := #[.slice A0_0 l0_0.length c0_0, .slice A0_1 l0_1.length c0_1]) (t := 25) ?hr ?_; (case hd => rfl); (case hg => rfl); (case hr => first | (go_simp; done) | (go_simp; rfl)); intro gb245 hg w14 hbox hb; have n0_ := Aside0.mk (below_step (by repeat (first | (with_reducible first | exact HB.out | apply below_alloc | apply pw_below_drewN | apply below_drew1) | exact HB.out)) hb); have n1_ := Aside0.mk (hbox); have n2_ := Aside0.mk ((by rw [hg]; exact (below_size (by repeat (first | (with_reducible first | exact HB.out | apply below_alloc | apply pw_below_drewN | apply below_drew1) | exact HB.out))) : w.heap.size ≤ gb245)); have n3_ := Aside0.mk ((by rw [hg]; exact (below_size (by repeat (first | (with_reducible first | exact HB.out | apply below_alloc | apply pw_below_drewN | apply below_drew1) | exact HB.out))) : w.heap.size ≤ gb245)); clear HB; have HB := n0_; have BK245 := n1_; have GW245 := n2_; have GE245 := n3_; clear n0_ n1_ n2_ n3_; clear hb hbox hg) | ((with_reducible refine gate_callee (f := 9) rfl ?_); refine goesL_ (some 17) rfl rfl Tryd.func9 (by kernel_rfl) rfl #[] rfl (by (try simp only [List.map_toArray, List.map_cons, List.map_nil]); first | done | rfl | (simp only [List.length_drop, List.length_take]; rfl)) ?_; (with_reducible refine (damperlaw5_known.calls k  true _ ?side1 A8.out).mono ?_); (case side1 => first | exact hLd_.out | exact hLd_ | exact ⟨LaidW.below hLd_.out (by repeat (first | (with_reducible first | exact HB.out | apply below_alloc | apply pw_below_drewN | apply below_drew1 | refine below_set ?_ GE245.out) | exact HB.out))⟩ | exact ⟨LaidW.below hLd_.out (by repeat (first | exact Below.refl _ _ | apply below_alloc | apply pw_below_drewN | apply below_drew1))⟩); rintro e w15 ⟨rfl, hb⟩; refine ⟨_, rfl, ?_⟩; have n0_ := Aside0.mk (blk_below (g := gb245) (pk BK245) hb); have n1_ := Aside0.mk (below_step (by repeat (first | (with_reducible first | exact HB.out | apply below_alloc | apply pw_below_drewN | apply below_drew1 | refine below_set ?_ GE245.out) | exact HB.out)) hb); clear BK245; clear HB; have BK245 := n0_; have HB := n1_; clear n0_ n1_; (try clear hb); (try clear hb2); (try clear hk); (try clear hi); have hcz16_0 : w15.cell? ⟨gb245, 0, none⟩ = some (.slice A0_0 l0_0.length c0_0) := bc BK245 0; have hcz16_1 : w15.cell? ⟨gb245, 1, none⟩ = some (.slice A0_1 l0_1.length c0_1) := bc BK245 1; have hfz16_0 := blk_frozen BK245.out 0; have hfz16_1 := blk_frozen BK245.out 1) | ((with_reducible refine gate_callee (f := 10) rfl ?_); refine goesL_ (some 20) rfl rfl Tryd.func10 (by kernel_rfl) rfl #[.agg #[.slice A0_0 l0_0.length c0_0, .slice A0_1 l0_1.length c0_1]] rfl (by (try simp only [List.map_toArray, List.map_cons, List.map_nil]); first | done | rfl | (simp only [List.length_drop, List.length_take]; rfl)) ?_; (with_reducible refine (damperlaw5_Few.calls k _ _ l0_0 _ _ l0_1 true _ ?side1 ?side2 ?side3 ?side4 A10.out).mono ?_); (case side1 => repeat (first | exact (Kd.C_below HR0_0.out HB.out) | (with_reducible refine Kd.C_alloc ?_ _) | (with_reducible refine Kd.C_drewN ?_ _) | (with_reducible refine Kd.C_drew ?_))); (case side2 => exact HC0_0.out); (case side3 => repeat (first | exact (Kd.C_below HR0_1.out HB.out) | (with_reducible refine Kd.C_alloc ?_ _) | (with_reducible refine Kd.C_drewN ?_ _) | (with_reducible refine Kd.C_drew ?_))); (case side4 => exact HC0_1.out); rintro e w17 ⟨rfl, hb⟩; refine ⟨_, rfl, ?_⟩; have n0_ := Aside0.mk (blk_below (g := gb245) (pk BK245) hb); have n1_ := Aside0.mk (below_step (by repeat (first | (with_reducible first | exact HB.out | apply below_alloc | apply pw_below_drewN | apply below_drew1 | refine below_set ?_ GE245.out) | exact HB.out)) hb); clear BK245; clear HB; have BK245 := n0_; have HB := n1_; clear n0_ n1_; (try clear hb); (try clear hb2); (try clear hk); (try clear hi)) | ((with_reducible refine gate_callee (f := 11) rfl ?_); refine goesL_ (some 24) rfl rfl Tryd.func11 (by kernel_rfl) rfl #[.slice A1 l1.length c1, .slice A2 l2.length c2] rfl (by (try simp only [List.map_toArray, List.map_cons, List.map_nil]); first | done | rfl | (simp only [List.length_drop, List.length_take]; rfl)) ?_; (with_reducible refine (damperlaw5_Make.calls k _ _ l1 _ _ l2 t248 t251 _ ?side1 ?side2 ?side3 ?side4 A12.out).mono ?_); (case side1 => repeat (first | exact (Kd.C_below HR1.out HB.out) | (with_reducible refine Kd.C_alloc ?_ _) | (with_reducible refine Kd.C_drewN ?_ _) | (with_reducible refine Kd.C_drew ?_))); (case side2 => exact HC1.out); (case side3 => repeat (first | exact (Kd.C_below HR2.out HB.out) | (with_reducible refine Kd.C_alloc ?_ _) | (with_reducible refine Kd.C_drewN ?_ _) | (with_reducible refine Kd.C_drew ?_))); (case side4 => exact HC2.out); rintro e w18 ⟨v249, v252, rfl, ho0, ho1, hb⟩; refine ⟨_, rfl, ?_⟩; have n0_ := Aside0.mk (Kd.R_lower ho0 (below_size (by repeat (first | (with_reducible first | exact HB.out | apply below_alloc | apply pw_below_drewN | apply below_drew1 | refine below_set ?_ GE245.out) | exact HB.out)))); have n1_ := Aside0.mk (Kd.R_lower ho1 (below_size (by repeat (first | (with_reducible first | exact HB.out | apply below_alloc | apply pw_below_drewN | apply below_drew1 | refine below_set ?_ GE245.out) | exact HB.out)))); have n2_ := Aside0.mk (blk_below (g := gb245) (pk BK245) hb); have n3_ := Aside0.mk (below_step (by repeat (first | (with_reducible first | exact HB.out | apply below_alloc | apply pw_below_drewN | apply below_drew1 | refine below_set ?_ GE245.out) | exact HB.out)) hb); clear BK245; clear HB; have HO250 := n0_; have HO253 := n1_; have BK245 := n2_; have HB := n3_; clear n0_ n1_ n2_ n3_; (try clear hb); (try clear hb2); (try clear hk); (try clear hi); (try clear ho0); (try clear ho1)) | ((with_reducible refine gate_dst (N := 15) rfl ?_); refine box_event ?hg (N := 15) ?hd (cs := #[.slice none 0 0, .slice none 0 0]) (t := 25) ?hr ?_; (case hd => rfl); (case hg => rfl); (case hr => first | (go_simp; done) | (go_simp; rfl)); intro gb254 hg w19 hbox hb; have n0_ := Aside0.mk (Kd.R_below (by (with_reducible repeat (first | apply Kd.R_alloc | apply Kd.R_drewN | apply Kd.R_drew)); exact HO250.out) hb); have n1_ := Aside0.mk (Kd.R_below (by (with_reducible repeat (first | apply Kd.R_alloc | apply Kd.R_drewN | apply Kd.R_drew)); exact HO253.out) hb); have n2_ := Aside0.mk (blk_below (g := gb245) (pk BK245) hb); have n3_ := Aside0.mk (below_step (by repeat (first | (with_reducible first | exact HB.out | apply below_alloc | apply pw_below_drewN | apply below_drew1 | refine below_set ?_ GE245.out) | exact HB.out)) hb); have n4_ := Aside0.mk (hbox); have n5_ := Aside0.mk ((by rw [hg]; exact (below_size (by repeat (first | (with_reducible first | exact HB.out | apply below_alloc | apply pw_below_drewN | apply below_drew1 | refine below_set ?_ GE245.out) | exact HB.out))) : w.heap.size ≤ gb254)); have n6_ := Aside0.mk ((by rw [hg]; exact (below_size (by repeat (first | (with_reducible first | exact HB.out | apply below_alloc | apply pw_below_drewN | apply below_drew1 | refine below_set ?_ GE245.out) | exact HB.out))) : w.heap.size ≤ gb254)); have n7_ := Aside0.mk ((ne_lt hg (pk BK245) : gb245 ≠ gb254)); have n8_ := Aside0.mk ((ne_gt hg (pk BK245) : gb254 ≠ gb245)); clear HO250; clear HO253; clear BK245; clear HB; have HO250 := n0_; have HO253 := n1_; have BK245 := n2_; have HB := n3_; have BK254 := n4_; have GW254 := n5_; have GE254 := n6_; have NB245_254 := n7_; have NB254_245 := n8_; clear n0_ n1_ n2_ n3_ n4_ n5_ n6_ n7_ n8_; clear hb hbox hg; obtain ⟨Ao20, co20, eo20⟩ := Kd.R_slice HO250.out; subst eo20; have hnb21 := NB254_245.out; have hnc21 := NB245_254.out; have hcz22_0 : w19.cell? ⟨gb254, 0, none⟩ = some (.slice none 0 0) := bc BK254 0; have hcz22_1 : w19.cell? ⟨gb254, 1, none⟩ = some (.slice none 0 0) := bc BK254 1; have hfz22_0 := blk_frozen BK254.out 0; have hfz22_1 := blk_frozen BK254.out 1; obtain ⟨Ao23, co23, eo23⟩ := Kd.R_slice HO253.out; subst eo23))
      (try simp only [Act.put, List.setIfInBounds_toArray, List.set_cons_zero, List.set_cons_succ])
      go_cut [34] (fun v34 wc => ∃ (kq : Nat) (x34_12 : Bool), v34 = .bool x34_12 ∧ Aside0 (damperlaw5_TableRight.j0 kq a3 a4 a5 l6 x34_12 t248 t251 = some r) ∧ Aside0 (kq ≤ k) ∧ Aside0 (Kd.R k32 32 wc w.heap.size (fun _ => True) (.slice Ao20 t248.length co20) t248) ∧ Aside0 (Kd.R k35 35 wc w.heap.size (fun _ => True) (.slice Ao23 t251.length co23) t251) ∧ Aside0 (wc.heap[gb245]? = some (.cells #[(.slice A0_0 l0_0.length c0_0), (.slice A0_1 l0_1.length c0_1)] 25 (0, 0))) ∧ Aside0 (wc.heap[gb254]? = some (.cells #[(.slice Ao20 t248.length co20), (.slice Ao23 t251.length co23)] 25 (0, 0))) ∧ Aside0 (Below w.heap.size w wc))
      case first =>
        have H := HC13.out
        clear HC13
        replace H := Option.bind_eq_some_iff.mp H
        obtain ⟨t255, A240, H⟩ := H
        replace H : ((damperref5_Right.f k l0_0 l0_1).bind fun t256 => (if (t255 != t256) = true then (damperlaw5_TableRight.j0 k a3 a4 a5 l6 true t248 t251) else ((table_Right.f t248 t251).bind fun t257 => (damperlaw5_TableRight.j0 k a3 a4 a5 l6 (!t257) t248 t251)))) = some r := H
        have A24 := Aside0.mk A240
        clear A240
        replace H := Option.bind_eq_some_iff.mp H
        obtain ⟨t256, A250, H⟩ := H
        replace H : (if (t255 != t256) = true then (damperlaw5_TableRight.j0 k a3 a4 a5 l6 true t248 t251) else ((table_Right.f t248 t251).bind fun t257 => (damperlaw5_TableRight.j0 k a3 a4 a5 l6 (!t257) t248 t251))) = some r := H
        have A25 := Aside0.mk A250
        clear A250
        by_cases c26 : (t255 != t256) = true
        · rw [if_pos c26] at H
          have c26b0 : (t255 != t256) = true := c26
          (try (have c26b1 : decide (t255 = t256) = false := by simpa using c26))
          (try (have c26b2 : (t255 == t256) = false := by simpa using c26))
          (try (have c26b3 : ¬ (t255 = t256) := by simpa using c26))
          clear c26
          (first | rw [c26b0] | (simp only [i64_w, i32_w]; rw [c26b0]) | rw [c26b1] | skip)
          have H' := Aside0.mk H
          clear H
          try go_wp2_with (first | (go_at_call 14; refine (damperlaw5_within.keep _ _ rfl (by first | decide | assumption | exact wi_ne (by assumption) | exact wi_ne' (by assumption) | omega) _).mono ?_; rintro e w' ⟨rfl, rfl⟩))
          have n0_ : Aside0 (Kd.R k32 32 ((w19.setCell ⟨gb254, 0, none⟩ (.slice Ao20 t248.length co20)).setCell ⟨gb254, 1, none⟩ (.slice Ao23 t251.length co23)) w.heap.size (fun _ => True) (.slice Ao20 t248.length co20) t248) := ⟨by (with_reducible repeat (first | apply Kd.R_alloc | apply Kd.R_drewN | apply Kd.R_drew)); exact Kd.R_mono (Kd.R_far (p := ⟨gb254, 1, none⟩) (Kd.R_far (p := ⟨gb254, 0, none⟩) (Kd.R_types HO250.out BK254.out (by decide)) (fun _ hk => hk.2) (.slice Ao20 t248.length co20)) (fun _ hk => hk.2) (.slice Ao23 t251.length co23)) (fun _ hk => trivial)⟩
          have n1_ : Aside0 (Kd.R k35 35 ((w19.setCell ⟨gb254, 0, none⟩ (.slice Ao20 t248.length co20)).setCell ⟨gb254, 1, none⟩ (.slice Ao23 t251.length co23)) w.heap.size (fun _ => True) (.slice Ao23 t251.length co23) t251) := ⟨by (with_reducible repeat (first | apply Kd.R_alloc | apply Kd.R_drewN | apply Kd.R_drew)); exact Kd.R_mono (Kd.R_far (p := ⟨gb254, 1, none⟩) (Kd.R_far (p := ⟨gb254, 0, none⟩) (Kd.R_types HO253.out BK254.out (by decide)) (fun _ hk => hk.2) (.slice Ao20 t248.length co20)) (fun _ hk => hk.2) (.slice Ao23 t251.length co23)) (fun _ hk => trivial)⟩
          have n2_ : Aside0 (((w19.setCell ⟨gb254, 0, none⟩ (.slice Ao20 t248.length co20)).setCell ⟨gb254, 1, none⟩ (.slice Ao23 t251.length co23)).heap[gb245]? = some (.cells #[.slice A0_0 l0_0.length c0_0, .slice A0_1 l0_1.length c0_1] 25 (0, 0))) := ⟨by (repeat ((with_reducible repeat (first | refine blk_drewN ?_ _ | refine blk_drew ?_ | refine blk_alloc ?_ _)); with_reducible refine blk_far ?_ NB245_254.out _)); (with_reducible repeat (first | refine blk_drewN ?_ _ | refine blk_drew ?_ | refine blk_alloc ?_ _)); exact BK245.out⟩
          have n3_ : Aside0 (((w19.setCell ⟨gb254, 0, none⟩ (.slice Ao20 t248.length co20)).setCell ⟨gb254, 1, none⟩ (.slice Ao23 t251.length co23)).heap[gb254]? = some (.cells #[.slice Ao20 t248.length co20, .slice Ao23 t251.length co23] 25 (0, 0))) := ⟨by (with_reducible repeat (first | refine blk_drewN ?_ _ | refine blk_drew ?_ | refine blk_alloc ?_ _)); refine blk_put (cs := #[.slice Ao20 t248.length co20, .slice none 0 0]) ?_ 1 _ rfl; (with_reducible repeat (first | refine blk_drewN ?_ _ | refine blk_drew ?_ | refine blk_alloc ?_ _)); refine blk_put (cs := #[.slice none 0 0, .slice none 0 0]) ?_ 0 _ rfl; (with_reducible repeat (first | refine blk_drewN ?_ _ | refine blk_drew ?_ | refine blk_alloc ?_ _)); exact BK254.out⟩
          have n4_ : Aside0 (Below w.heap.size w ((w19.setCell ⟨gb254, 0, none⟩ (.slice Ao20 t248.length co20)).setCell ⟨gb254, 1, none⟩ (.slice Ao23 t251.length co23))) := ⟨by repeat (first | (with_reducible first | exact HB.out | apply below_alloc | apply pw_below_drewN | apply below_drew1 | refine below_set ?_ GE245.out | refine below_set ?_ GE254.out) | exact HB.out)⟩
          (try clear HO250)
          (try clear HO253)
          (try clear BK245)
          (try clear BK254)
          (try clear HB)
          (repeat rw [setCell_drewN_])
          (repeat rw [World.drewN_drewN])
          generalize ((w19.setCell ⟨gb254, 0, none⟩ (.slice Ao20 t248.length co20)).setCell ⟨gb254, 1, none⟩ (.slice Ao23 t251.length co23)) = w27 at n0_ n1_ n2_ n3_ n4_ ⊢
          have HO250 := n0_
          have HO253 := n1_
          have BK245 := n2_
          have BK254 := n3_
          have HB := n4_
          clear n0_ n1_ n2_ n3_ n4_
          replace HO250 := Aside0.mk (Kd.R_drew HO250.out)
          replace HO253 := Aside0.mk (Kd.R_drew HO253.out)
          replace BK245 := Aside0.mk (blk_drew BK245.out)
          replace BK254 := Aside0.mk (blk_drew BK254.out)
          replace HB := Aside0.mk (below_drew1 HB.out)
          refine start_ (n := 10) (S := fun w' => w'.cell? ⟨gb245, 0, none⟩ = some (.slice A0_0 l0_0.length c0_0) ∧ w'.cell? ⟨gb245, 1, none⟩ = some (.slice A0_1 l0_1.length c0_1)) (ds := []) #[false, false, false, false, false, false, false, false, false, false] (by kernel_rfl) rfl rfl ⟨bc BK245 0, bc BK245 1⟩ (fun hHeld => ?_); refine with_tabW damperlaw5_TableRight.tab6 damperlaw5_TableRight.bits6 (fun HT_ HW_ => ?_)
          generalize w27.drew = w28 at HO250 HO253 BK245 BK254 HB hHeld ⊢
          refine take_ (i := 0) (N := some 25) (v := ?_) (a' := ?_) #[true, false, false, false, false, false, false, false, false, false] rfl rfl (take_ofW HT_.out HW_.out (by kernel_rfl)) (fun _ _ _ h => h) (Or.inl ⟨by rfl, ?_⟩) hHeld ?_ ?_
          rotate_left
          · rintro w' ⟨s0, s1⟩
            go_simp
            with_reducible rfl
          rotate_left
          · simp only [Act.put, List.setIfInBounds_toArray, List.set_cons_zero, List.set_cons_succ, i64_w, i32_w]
            rfl
          refine take_ (i := 2) (N := some 27) (v := ?_) (a' := ?_) #[true, false, true, false, false, false, false, false, false, false] rfl rfl (take_ofW HT_.out HW_.out (by kernel_rfl)) (fun _ _ _ h => h) (Or.inl ⟨by rfl, ?_⟩) hHeld ?_ ?_
          rotate_left
          · rintro w' ⟨s0, s1⟩
            go_simp
            with_reducible rfl
          rotate_left
          · simp only [Act.put, List.setIfInBounds_toArray, List.set_cons_zero, List.set_cons_succ, i64_w, i32_w]
            rfl
          refine one_ (i := 1) (N := some 26) #[true, true, true, false, false, false, false, false, false, false] rfl rfl (one_of HT_.out (by kernel_rfl)) (by decide) (fun K hK => ?_)
          refine goes_ Tryd.func12 (by kernel_rfl) rfl #[.agg #[.slice A0_0 l0_0.length c0_0, .slice A0_1 l0_1.length c0_1]] (by rfl) rfl rfl (by (try simp only [List.map_toArray, List.map_cons, List.map_nil]); first | done | rfl | (simp only [List.length_drop, List.length_take]; rfl)) ?_
          with_reducible refine (table_Right.calls _ _ l0_0 _ _ l0_1 t255 _ ?side5 ?side1 ?side2 ?side3 ?side4 A24.out).mono ?_
          (case side1 => repeat (first | exact (Kd.C_below HR0_0.out HB.out) | (with_reducible refine Kd.C_alloc ?_ _) | (with_reducible refine Kd.C_drewN ?_ _) | (with_reducible refine Kd.C_drew ?_)))
          (case side2 => exact HC0_0.out)
          (case side3 => repeat (first | exact (Kd.C_below HR0_1.out HB.out) | (with_reducible refine Kd.C_alloc ?_ _) | (with_reducible refine Kd.C_drewN ?_ _) | (with_reducible refine Kd.C_drew ?_)))
          (case side4 => exact HC0_1.out)
          (case side5 => first | exact hLd_.out | exact hLd_ | exact ⟨LaidW.below hLd_.out (by repeat (first | (with_reducible first | exact HB.out | apply below_alloc | apply pw_below_drewN | apply below_drew1 | refine below_set ?_ GE245.out | refine below_set ?_ GE254.out) | exact HB.out))⟩ | exact ⟨LaidW.below hLd_.out (by repeat (first | exact Below.refl _ _ | apply below_alloc | apply pw_below_drewN | apply below_drew1))⟩)
          rintro e w29 ⟨rfl, hb⟩
          refine ⟨_, rfl, ?_⟩
          replace HO250 := Aside0.mk (Kd.R_below (by (with_reducible repeat (first | apply Kd.R_alloc | apply Kd.R_drewN | apply Kd.R_drew)); exact HO250.out) hb)
          replace HO253 := Aside0.mk (Kd.R_below (by (with_reducible repeat (first | apply Kd.R_alloc | apply Kd.R_drewN | apply Kd.R_drew)); exact HO253.out) hb)
          replace BK245 := Aside0.mk (blk_below (g := gb245) (pk BK245) hb)
          replace BK254 := Aside0.mk (blk_below (g := gb254) (pk BK254) hb)
          replace HB := Aside0.mk (below_step (by repeat (first | (with_reducible first | exact HB.out | apply below_alloc | apply pw_below_drewN | apply below_drew1 | refine below_set ?_ GE245.out | refine below_set ?_ GE254.out) | exact HB.out)) hb)
          (try clear hb)
          (try clear hb2)
          (try clear hk)
          (try clear hi)
          refine hK.out _ _ ⟨bc BK245 0, bc BK245 1⟩ (fun hHeld => ?_)
          clear hK K
          refine norm_ (a' := ?_) ?_ ?_
          rotate_left
          · show Act.put _ (some 26) _ = _
            simp only [Act.put, List.setIfInBounds_toArray, List.set_cons_zero, List.set_cons_succ, i64_w, i32_w]
            rfl
          refine one_ (i := 3) (N := some 28) #[true, true, true, true, false, false, false, false, false, false] rfl rfl (one_of HT_.out (by kernel_rfl)) (by decide) (fun K hK => ?_)
          refine goes_ Tryd.func13 (by kernel_rfl) rfl #[.agg #[.slice A0_0 l0_0.length c0_0, .slice A0_1 l0_1.length c0_1]] (by rfl) rfl rfl (by (try simp only [List.map_toArray, List.map_cons, List.map_nil]); first | done | rfl | (simp only [List.length_drop, List.length_take]; rfl)) ?_
          with_reducible refine (damperref5_Right.calls k _ _ l0_0 _ _ l0_1 t256 _ ?side1 ?side2 ?side3 ?side4 A25.out).mono ?_
          (case side1 => repeat (first | exact (Kd.C_below HR0_0.out HB.out) | (with_reducible refine Kd.C_alloc ?_ _) | (with_reducible refine Kd.C_drewN ?_ _) | (with_reducible refine Kd.C_drew ?_)))
          (case side2 => exact HC0_0.out)
          (case side3 => repeat (first | exact (Kd.C_below HR0_1.out HB.out) | (with_reducible refine Kd.C_alloc ?_ _) | (with_reducible refine Kd.C_drewN ?_ _) | (with_reducible refine Kd.C_drew ?_)))
          (case side4 => exact HC0_1.out)
          rintro e w30 ⟨rfl, hb⟩
          refine ⟨_, rfl, ?_⟩
          replace HO250 := Aside0.mk (Kd.R_below (by (with_reducible repeat (first | apply Kd.R_alloc | apply Kd.R_drewN | apply Kd.R_drew)); exact HO250.out) hb)
          replace HO253 := Aside0.mk (Kd.R_below (by (with_reducible repeat (first | apply Kd.R_alloc | apply Kd.R_drewN | apply Kd.R_drew)); exact HO253.out) hb)
          replace BK245 := Aside0.mk (blk_below (g := gb245) (pk BK245) hb)
          replace BK254 := Aside0.mk (blk_below (g := gb254) (pk BK254) hb)
          replace HB := Aside0.mk (below_step (by repeat (first | (with_reducible first | exact HB.out | apply below_alloc | apply pw_below_drewN | apply below_drew1 | refine below_set ?_ GE245.out | refine below_set ?_ GE254.out) | exact HB.out)) hb)
          (try clear hb)
          (try clear hb2)
          (try clear hk)
          (try clear hi)
          refine hK.out _ _ ⟨bc BK245 0, bc BK245 1⟩ (fun hHeld => ?_)
          clear hK K
          refine norm_ (a' := ?_) ?_ ?_
          rotate_left
          · show Act.put _ (some 28) _ = _
            simp only [Act.put, List.setIfInBounds_toArray, List.set_cons_zero, List.set_cons_succ, i64_w, i32_w]
            rfl
          refine pure_ (i := 4) (N := some 29) (v := ?_) (a' := ?_) #[true, true, true, true, true, false, false, false, false, false] rfl rfl (any_of HT_.out (by kernel_rfl)) (fun _ _ _ h => h) (Or.inl ⟨by rfl, ?_⟩) ?_ ?_
          rotate_left
          · intro w'
            go_simp
            with_reducible rfl
          rotate_left
          · simp only [Act.put, List.setIfInBounds_toArray, List.set_cons_zero, List.set_cons_succ, i64_w, i32_w]
            rfl
          refine pure_ (i := 5) (N := some 30) (v := ?_) (a' := ?_) #[true, true, true, true, true, true, false, false, false, false] rfl rfl (any_of HT_.out (by kernel_rfl)) (fun _ _ _ h => h) (Or.inl ⟨by rfl, ?_⟩) ?_ ?_
          rotate_left
          · intro w'
            go_simp
            with_reducible rfl
          rotate_left
          · simp only [Act.put, List.setIfInBounds_toArray, List.set_cons_zero, List.set_cons_succ, i64_w, i32_w]
            rfl
          refine pure_ (i := 6) (N := some 31) (v := undef) (a' := ?_) #[true, true, true, true, true, true, true, false, false, false] rfl rfl (any_of HT_.out (by kernel_rfl)) (fun _ _ _ h => h) (Or.inr ⟨by rfl, rfl⟩) ?_ ?_
          rotate_left
          · simp only [Act.put, List.setIfInBounds_toArray, List.set_cons_zero, List.set_cons_succ, i64_w, i32_w]
            rfl
          refine pure_ (i := 7) (N := some 32) (v := undef) (a' := ?_) #[true, true, true, true, true, true, true, true, false, false] rfl rfl (any_of HT_.out (by kernel_rfl)) (fun _ _ _ h => h) (Or.inr ⟨by rfl, rfl⟩) ?_ ?_
          rotate_left
          · simp only [Act.put, List.setIfInBounds_toArray, List.set_cons_zero, List.set_cons_succ, i64_w, i32_w]
            rfl
          refine pure_ (i := 8) (N := some 33) (v := undef) (a' := ?_) #[true, true, true, true, true, true, true, true, true, false] rfl rfl (any_of HT_.out (by kernel_rfl)) (fun _ _ _ h => h) (Or.inr ⟨by rfl, rfl⟩) ?_ ?_
          rotate_left
          · simp only [Act.put, List.setIfInBounds_toArray, List.set_cons_zero, List.set_cons_succ, i64_w, i32_w]
            rfl
          refine pure_ (i := 9) (N := some 34) (v := ?_) (a' := ?_) #[true, true, true, true, true, true, true, true, true, true] rfl rfl (any_of HT_.out (by kernel_rfl)) (fun _ _ _ h => h) (Or.inl ⟨by rfl, ?_⟩) ?_ ?_
          rotate_left
          · intro w'
            go_simp
            with_reducible rfl
          rotate_left
          · simp only [Act.put, List.setIfInBounds_toArray, List.set_cons_zero, List.set_cons_succ, i64_w, i32_w]
            rfl
          refine done_ (done_of HT_.out (by kernel_rfl)) ?_
          try go_wp2_with (first | (go_at_call 14; refine (damperlaw5_within.keep _ _ rfl (by first | decide | assumption | exact wi_ne (by assumption) | exact wi_ne' (by assumption) | omega) _).mono ?_; rintro e w' ⟨rfl, rfl⟩))
          go_meet
          case rel => exact ⟨_, (true), (by first | rfl | (simp; done) | (simp [*]; done)), H', ⟨by first | omega | exact Nat.le_refl _⟩, ⟨by (with_reducible repeat (first | apply Kd.R_alloc | apply Kd.R_drewN | apply Kd.R_drew)); exact HO250.out⟩, ⟨by (with_reducible repeat (first | apply Kd.R_alloc | apply Kd.R_drewN | apply Kd.R_drew)); exact HO253.out⟩, ⟨by (with_reducible repeat (first | refine blk_drewN ?_ _ | refine blk_drew ?_ | refine blk_alloc ?_ _)); exact BK245.out⟩, ⟨by (with_reducible repeat (first | refine blk_drewN ?_ _ | refine blk_drew ?_ | refine blk_alloc ?_ _)); exact BK254.out⟩, ⟨by repeat (first | (with_reducible first | exact HB.out | apply below_alloc | apply pw_below_drewN | apply below_drew1 | refine below_set ?_ GE245.out | refine below_set ?_ GE254.out) | exact HB.out)⟩⟩
        · rw [if_neg c26] at H
          have c26b0 : (t255 != t256) = false := by simpa using c26
          (try (have c26b1 : decide (t255 = t256) = true := by simpa using c26))
          (try (have c26b2 : (t255 == t256) = true := by simpa using c26))
          clear c26
          (first | rw [c26b0] | (simp only [i64_w, i32_w]; rw [c26b0]) | rw [c26b1] | skip)
          replace H := Option.bind_eq_some_iff.mp H
          obtain ⟨t257, A310, H⟩ := H
          replace H : (damperlaw5_TableRight.j0 k a3 a4 a5 l6 (!t257) t248 t251) = some r := H
          have A31 := Aside0.mk A310
          clear A310
          have H' := Aside0.mk H
          clear H
          try go_wp2_with (first | (go_at_call 14; refine (damperlaw5_within.keep _ _ rfl (by first | decide | assumption | exact wi_ne (by assumption) | exact wi_ne' (by assumption) | omega) _).mono ?_; rintro e w' ⟨rfl, rfl⟩))
          have n0_ : Aside0 (Kd.R k32 32 ((w19.setCell ⟨gb254, 0, none⟩ (.slice Ao20 t248.length co20)).setCell ⟨gb254, 1, none⟩ (.slice Ao23 t251.length co23)) w.heap.size (fun _ => True) (.slice Ao20 t248.length co20) t248) := ⟨by (with_reducible repeat (first | apply Kd.R_alloc | apply Kd.R_drewN | apply Kd.R_drew)); exact Kd.R_mono (Kd.R_far (p := ⟨gb254, 1, none⟩) (Kd.R_far (p := ⟨gb254, 0, none⟩) (Kd.R_types HO250.out BK254.out (by decide)) (fun _ hk => hk.2) (.slice Ao20 t248.length co20)) (fun _ hk => hk.2) (.slice Ao23 t251.length co23)) (fun _ hk => trivial)⟩
          have n1_ : Aside0 (Kd.R k35 35 ((w19.setCell ⟨gb254, 0, none⟩ (.slice Ao20 t248.length co20)).setCell ⟨gb254, 1, none⟩ (.slice Ao23 t251.length co23)) w.heap.size (fun _ => True) (.slice Ao23 t251.length co23) t251) := ⟨by (with_reducible repeat (first | apply Kd.R_alloc | apply Kd.R_drewN | apply Kd.R_drew)); exact Kd.R_mono (Kd.R_far (p := ⟨gb254, 1, none⟩) (Kd.R_far (p := ⟨gb254, 0, none⟩) (Kd.R_types HO253.out BK254.out (by decide)) (fun _ hk => hk.2) (.slice Ao20 t248.length co20)) (fun _ hk => hk.2) (.slice Ao23 t251.length co23)) (fun _ hk => trivial)⟩
          have n2_ : Aside0 (((w19.setCell ⟨gb254, 0, none⟩ (.slice Ao20 t248.length co20)).setCell ⟨gb254, 1, none⟩ (.slice Ao23 t251.length co23)).heap[gb245]? = some (.cells #[.slice A0_0 l0_0.length c0_0, .slice A0_1 l0_1.length c0_1] 25 (0, 0))) := ⟨by (repeat ((with_reducible repeat (first | refine blk_drewN ?_ _ | refine blk_drew ?_ | refine blk_alloc ?_ _)); with_reducible refine blk_far ?_ NB245_254.out _)); (with_reducible repeat (first | refine blk_drewN ?_ _ | refine blk_drew ?_ | refine blk_alloc ?_ _)); exact BK245.out⟩
          have n3_ : Aside0 (((w19.setCell ⟨gb254, 0, none⟩ (.slice Ao20 t248.length co20)).setCell ⟨gb254, 1, none⟩ (.slice Ao23 t251.length co23)).heap[gb254]? = some (.cells #[.slice Ao20 t248.length co20, .slice Ao23 t251.length co23] 25 (0, 0))) := ⟨by (with_reducible repeat (first | refine blk_drewN ?_ _ | refine blk_drew ?_ | refine blk_alloc ?_ _)); refine blk_put (cs := #[.slice Ao20 t248.length co20, .slice none 0 0]) ?_ 1 _ rfl; (with_reducible repeat (first | refine blk_drewN ?_ _ | refine blk_drew ?_ | refine blk_alloc ?_ _)); refine blk_put (cs := #[.slice none 0 0, .slice none 0 0]) ?_ 0 _ rfl; (with_reducible repeat (first | refine blk_drewN ?_ _ | refine blk_drew ?_ | refine blk_alloc ?_ _)); exact BK254.out⟩
          have n4_ : Aside0 (Below w.heap.size w ((w19.setCell ⟨gb254, 0, none⟩ (.slice Ao20 t248.length co20)).setCell ⟨gb254, 1, none⟩ (.slice Ao23 t251.length co23))) := ⟨by repeat (first | (with_reducible first | exact HB.out | apply below_alloc | apply pw_below_drewN | apply below_drew1 | refine below_set ?_ GE245.out | refine below_set ?_ GE254.out) | exact HB.out)⟩
          (try clear HO250)
          (try clear HO253)
          (try clear BK245)
          (try clear BK254)
          (try clear HB)
          (repeat rw [setCell_drewN_])
          (repeat rw [World.drewN_drewN])
          generalize ((w19.setCell ⟨gb254, 0, none⟩ (.slice Ao20 t248.length co20)).setCell ⟨gb254, 1, none⟩ (.slice Ao23 t251.length co23)) = w32 at n0_ n1_ n2_ n3_ n4_ ⊢
          have HO250 := n0_
          have HO253 := n1_
          have BK245 := n2_
          have BK254 := n3_
          have HB := n4_
          clear n0_ n1_ n2_ n3_ n4_
          replace HO250 := Aside0.mk (Kd.R_drew HO250.out)
          replace HO253 := Aside0.mk (Kd.R_drew HO253.out)
          replace BK245 := Aside0.mk (blk_drew BK245.out)
          replace BK254 := Aside0.mk (blk_drew BK254.out)
          replace HB := Aside0.mk (below_drew1 HB.out)
          refine start_ (n := 10) (S := fun w' => w'.cell? ⟨gb245, 0, none⟩ = some (.slice A0_0 l0_0.length c0_0) ∧ w'.cell? ⟨gb245, 1, none⟩ = some (.slice A0_1 l0_1.length c0_1) ∧ w'.cell? ⟨gb254, 0, none⟩ = some (.slice Ao20 t248.length co20) ∧ w'.cell? ⟨gb254, 1, none⟩ = some (.slice Ao23 t251.length co23)) (ds := []) #[false, false, false, false, false, false, false, false, false, false] (by kernel_rfl) rfl rfl ⟨bc BK245 0, bc BK245 1, bc BK254 0, bc BK254 1⟩ (fun hHeld => ?_); refine with_tabW damperlaw5_TableRight.tab6 damperlaw5_TableRight.bits6 (fun HT_ HW_ => ?_)
          generalize w32.drew = w33 at HO250 HO253 BK245 BK254 HB hHeld ⊢
          refine take_ (i := 0) (N := some 25) (v := ?_) (a' := ?_) #[true, false, false, false, false, false, false, false, false, false] rfl rfl (take_ofW HT_.out HW_.out (by kernel_rfl)) (fun _ _ _ h => h) (Or.inl ⟨by rfl, ?_⟩) hHeld ?_ ?_
          rotate_left
          · rintro w' ⟨s0, s1, s2, s3⟩
            go_simp
            with_reducible rfl
          rotate_left
          · simp only [Act.put, List.setIfInBounds_toArray, List.set_cons_zero, List.set_cons_succ, i64_w, i32_w]
            rfl
          refine take_ (i := 2) (N := some 27) (v := ?_) (a' := ?_) #[true, false, true, false, false, false, false, false, false, false] rfl rfl (take_ofW HT_.out HW_.out (by kernel_rfl)) (fun _ _ _ h => h) (Or.inl ⟨by rfl, ?_⟩) hHeld ?_ ?_
          rotate_left
          · rintro w' ⟨s0, s1, s2, s3⟩
            go_simp
            with_reducible rfl
          rotate_left
          · simp only [Act.put, List.setIfInBounds_toArray, List.set_cons_zero, List.set_cons_succ, i64_w, i32_w]
            rfl
          refine one_ (i := 1) (N := some 26) #[true, true, true, false, false, false, false, false, false, false] rfl rfl (one_of HT_.out (by kernel_rfl)) (by decide) (fun K hK => ?_)
          refine goes_ Tryd.func12 (by kernel_rfl) rfl #[.agg #[.slice A0_0 l0_0.length c0_0, .slice A0_1 l0_1.length c0_1]] (by rfl) rfl rfl (by (try simp only [List.map_toArray, List.map_cons, List.map_nil]); first | done | rfl | (simp only [List.length_drop, List.length_take]; rfl)) ?_
          with_reducible refine (table_Right.calls _ _ l0_0 _ _ l0_1 t255 _ ?side5 ?side1 ?side2 ?side3 ?side4 A24.out).mono ?_
          (case side1 => repeat (first | exact (Kd.C_below HR0_0.out HB.out) | (with_reducible refine Kd.C_alloc ?_ _) | (with_reducible refine Kd.C_drewN ?_ _) | (with_reducible refine Kd.C_drew ?_)))
          (case side2 => exact HC0_0.out)
          (case side3 => repeat (first | exact (Kd.C_below HR0_1.out HB.out) | (with_reducible refine Kd.C_alloc ?_ _) | (with_reducible refine Kd.C_drewN ?_ _) | (with_reducible refine Kd.C_drew ?_)))
          (case side4 => exact HC0_1.out)
          (case side5 => first | exact hLd_.out | exact hLd_ | exact ⟨LaidW.below hLd_.out (by repeat (first | (with_reducible first | exact HB.out | apply below_alloc | apply pw_below_drewN | apply below_drew1 | refine below_set ?_ GE245.out | refine below_set ?_ GE254.out) | exact HB.out))⟩ | exact ⟨LaidW.below hLd_.out (by repeat (first | exact Below.refl _ _ | apply below_alloc | apply pw_below_drewN | apply below_drew1))⟩)
          rintro e w34 ⟨rfl, hb⟩
          refine ⟨_, rfl, ?_⟩
          replace HO250 := Aside0.mk (Kd.R_below (by (with_reducible repeat (first | apply Kd.R_alloc | apply Kd.R_drewN | apply Kd.R_drew)); exact HO250.out) hb)
          replace HO253 := Aside0.mk (Kd.R_below (by (with_reducible repeat (first | apply Kd.R_alloc | apply Kd.R_drewN | apply Kd.R_drew)); exact HO253.out) hb)
          replace BK245 := Aside0.mk (blk_below (g := gb245) (pk BK245) hb)
          replace BK254 := Aside0.mk (blk_below (g := gb254) (pk BK254) hb)
          replace HB := Aside0.mk (below_step (by repeat (first | (with_reducible first | exact HB.out | apply below_alloc | apply pw_below_drewN | apply below_drew1 | refine below_set ?_ GE245.out | refine below_set ?_ GE254.out) | exact HB.out)) hb)
          (try clear hb)
          (try clear hb2)
          (try clear hk)
          (try clear hi)
          refine hK.out _ _ ⟨bc BK245 0, bc BK245 1, bc BK254 0, bc BK254 1⟩ (fun hHeld => ?_)
          clear hK K
          refine norm_ (a' := ?_) ?_ ?_
          rotate_left
          · show Act.put _ (some 26) _ = _
            simp only [Act.put, List.setIfInBounds_toArray, List.set_cons_zero, List.set_cons_succ, i64_w, i32_w]
            rfl
          refine one_ (i := 3) (N := some 28) #[true, true, true, true, false, false, false, false, false, false] rfl rfl (one_of HT_.out (by kernel_rfl)) (by decide) (fun K hK => ?_)
          refine goes_ Tryd.func13 (by kernel_rfl) rfl #[.agg #[.slice A0_0 l0_0.length c0_0, .slice A0_1 l0_1.length c0_1]] (by rfl) rfl rfl (by (try simp only [List.map_toArray, List.map_cons, List.map_nil]); first | done | rfl | (simp only [List.length_drop, List.length_take]; rfl)) ?_
          with_reducible refine (damperref5_Right.calls k _ _ l0_0 _ _ l0_1 t256 _ ?side1 ?side2 ?side3 ?side4 A25.out).mono ?_
          (case side1 => repeat (first | exact (Kd.C_below HR0_0.out HB.out) | (with_reducible refine Kd.C_alloc ?_ _) | (with_reducible refine Kd.C_drewN ?_ _) | (with_reducible refine Kd.C_drew ?_)))
          (case side2 => exact HC0_0.out)
          (case side3 => repeat (first | exact (Kd.C_below HR0_1.out HB.out) | (with_reducible refine Kd.C_alloc ?_ _) | (with_reducible refine Kd.C_drewN ?_ _) | (with_reducible refine Kd.C_drew ?_)))
          (case side4 => exact HC0_1.out)
          rintro e w35 ⟨rfl, hb⟩
          refine ⟨_, rfl, ?_⟩
          replace HO250 := Aside0.mk (Kd.R_below (by (with_reducible repeat (first | apply Kd.R_alloc | apply Kd.R_drewN | apply Kd.R_drew)); exact HO250.out) hb)
          replace HO253 := Aside0.mk (Kd.R_below (by (with_reducible repeat (first | apply Kd.R_alloc | apply Kd.R_drewN | apply Kd.R_drew)); exact HO253.out) hb)
          replace BK245 := Aside0.mk (blk_below (g := gb245) (pk BK245) hb)
          replace BK254 := Aside0.mk (blk_below (g := gb254) (pk BK254) hb)
          replace HB := Aside0.mk (below_step (by repeat (first | (with_reducible first | exact HB.out | apply below_alloc | apply pw_below_drewN | apply below_drew1 | refine below_set ?_ GE245.out | refine below_set ?_ GE254.out) | exact HB.out)) hb)
          (try clear hb)
          (try clear hb2)
          (try clear hk)
          (try clear hi)
          refine hK.out _ _ ⟨bc BK245 0, bc BK245 1, bc BK254 0, bc BK254 1⟩ (fun hHeld => ?_)
          clear hK K
          refine norm_ (a' := ?_) ?_ ?_
          rotate_left
          · show Act.put _ (some 28) _ = _
            simp only [Act.put, List.setIfInBounds_toArray, List.set_cons_zero, List.set_cons_succ, i64_w, i32_w]
            rfl
          refine pure_ (i := 4) (N := some 29) (v := ?_) (a' := ?_) #[true, true, true, true, true, false, false, false, false, false] rfl rfl (any_of HT_.out (by kernel_rfl)) (fun _ _ _ h => h) (Or.inl ⟨by rfl, ?_⟩) ?_ ?_
          rotate_left
          · intro w'
            go_simp
            with_reducible rfl
          rotate_left
          · simp only [Act.put, List.setIfInBounds_toArray, List.set_cons_zero, List.set_cons_succ, i64_w, i32_w]
            rfl
          refine pure_ (i := 5) (N := some 30) (v := ?_) (a' := ?_) #[true, true, true, true, true, true, false, false, false, false] rfl rfl (any_of HT_.out (by kernel_rfl)) (fun _ _ _ h => h) (Or.inl ⟨by rfl, ?_⟩) ?_ ?_
          rotate_left
          · intro w'
            go_simp
            with_reducible rfl
          rotate_left
          · simp only [Act.put, List.setIfInBounds_toArray, List.set_cons_zero, List.set_cons_succ, i64_w, i32_w]
            rfl
          refine take_ (i := 6) (N := some 31) (v := ?_) (a' := ?_) #[true, true, true, true, true, true, true, false, false, false] rfl rfl (take_ofW HT_.out HW_.out (by kernel_rfl)) (fun _ _ _ h => h) (Or.inl ⟨by rfl, ?_⟩) hHeld ?_ ?_
          rotate_left
          · rintro w' ⟨s0, s1, s2, s3⟩
            go_simp
            with_reducible rfl
          rotate_left
          · simp only [Act.put, List.setIfInBounds_toArray, List.set_cons_zero, List.set_cons_succ, i64_w, i32_w]
            rfl
          refine one_ (i := 7) (N := some 32) #[true, true, true, true, true, true, true, true, false, false] rfl rfl (one_of HT_.out (by kernel_rfl)) (by decide) (fun K hK => ?_)
          refine goes_ Tryd.func12 (by kernel_rfl) rfl #[.agg #[.slice Ao20 t248.length co20, .slice Ao23 t251.length co23]] (by rfl) rfl rfl (by (try simp only [List.map_toArray, List.map_cons, List.map_nil]); first | done | rfl | (simp only [List.length_drop, List.length_take]; rfl)) ?_
          with_reducible refine (table_Right.calls _ _ t248 _ _ t251 t257 _ ?side5 ?side1 ?side2 ?side3 ?side4 A31.out).mono ?_
          (case side1 => repeat (first | exact (Kd.R_reads' HO250.out).2.2 | (with_reducible refine Kd.C_alloc ?_ _) | (with_reducible refine Kd.C_drewN ?_ _) | (with_reducible refine Kd.C_drew ?_)))
          (case side2 => exact (Kd.R_reads' HO250.out).2.1)
          (case side3 => repeat (first | exact (Kd.R_reads' HO253.out).2.2 | (with_reducible refine Kd.C_alloc ?_ _) | (with_reducible refine Kd.C_drewN ?_ _) | (with_reducible refine Kd.C_drew ?_)))
          (case side4 => exact (Kd.R_reads' HO253.out).2.1)
          (case side5 => first | exact hLd_.out | exact hLd_ | exact ⟨LaidW.below hLd_.out (by repeat (first | (with_reducible first | exact HB.out | apply below_alloc | apply pw_below_drewN | apply below_drew1 | refine below_set ?_ GE245.out | refine below_set ?_ GE254.out) | exact HB.out))⟩ | exact ⟨LaidW.below hLd_.out (by repeat (first | exact Below.refl _ _ | apply below_alloc | apply pw_below_drewN | apply below_drew1))⟩)
          rintro e w36 ⟨rfl, hb⟩
          refine ⟨_, rfl, ?_⟩
          replace HO250 := Aside0.mk (Kd.R_below (by (with_reducible repeat (first | apply Kd.R_alloc | apply Kd.R_drewN | apply Kd.R_drew)); exact HO250.out) hb)
          replace HO253 := Aside0.mk (Kd.R_below (by (with_reducible repeat (first | apply Kd.R_alloc | apply Kd.R_drewN | apply Kd.R_drew)); exact HO253.out) hb)
          replace BK245 := Aside0.mk (blk_below (g := gb245) (pk BK245) hb)
          replace BK254 := Aside0.mk (blk_below (g := gb254) (pk BK254) hb)
          replace HB := Aside0.mk (below_step (by repeat (first | (with_reducible first | exact HB.out | apply below_alloc | apply pw_below_drewN | apply below_drew1 | refine below_set ?_ GE245.out | refine below_set ?_ GE254.out) | exact HB.out)) hb)
          (try clear hb)
          (try clear hb2)
          (try clear hk)
          (try clear hi)
          refine hK.out _ _ ⟨bc BK245 0, bc BK245 1, bc BK254 0, bc BK254 1⟩ (fun hHeld => ?_)
          clear hK K
          refine norm_ (a' := ?_) ?_ ?_
          rotate_left
          · show Act.put _ (some 32) _ = _
            simp only [Act.put, List.setIfInBounds_toArray, List.set_cons_zero, List.set_cons_succ, i64_w, i32_w]
            rfl
          refine pure_ (i := 8) (N := some 33) (v := ?_) (a' := ?_) #[true, true, true, true, true, true, true, true, true, false] rfl rfl (any_of HT_.out (by kernel_rfl)) (fun _ _ _ h => h) (Or.inl ⟨by rfl, ?_⟩) ?_ ?_
          rotate_left
          · intro w'
            go_simp
            with_reducible rfl
          rotate_left
          · simp only [Act.put, List.setIfInBounds_toArray, List.set_cons_zero, List.set_cons_succ, i64_w, i32_w]
            rfl
          refine pure_ (i := 9) (N := some 34) (v := ?_) (a' := ?_) #[true, true, true, true, true, true, true, true, true, true] rfl rfl (any_of HT_.out (by kernel_rfl)) (fun _ _ _ h => h) (Or.inl ⟨by rfl, ?_⟩) ?_ ?_
          rotate_left
          · intro w'
            go_simp
            with_reducible rfl
          rotate_left
          · simp only [Act.put, List.setIfInBounds_toArray, List.set_cons_zero, List.set_cons_succ, i64_w, i32_w]
            rfl
          refine done_ (done_of HT_.out (by kernel_rfl)) ?_
          try go_wp2_with (first | (go_at_call 14; refine (damperlaw5_within.keep _ _ rfl (by first | decide | assumption | exact wi_ne (by assumption) | exact wi_ne' (by assumption) | omega) _).mono ?_; rintro e w' ⟨rfl, rfl⟩))
          go_meet
          case rel => exact ⟨_, (!t257), (by first | rfl | (simp; done) | (simp [*]; done)), H', ⟨by first | omega | exact Nat.le_refl _⟩, ⟨by (with_reducible repeat (first | apply Kd.R_alloc | apply Kd.R_drewN | apply Kd.R_drew)); exact HO250.out⟩, ⟨by (with_reducible repeat (first | apply Kd.R_alloc | apply Kd.R_drewN | apply Kd.R_drew)); exact HO253.out⟩, ⟨by (with_reducible repeat (first | refine blk_drewN ?_ _ | refine blk_drew ?_ | refine blk_alloc ?_ _)); exact BK245.out⟩, ⟨by (with_reducible repeat (first | refine blk_drewN ?_ _ | refine blk_drew ?_ | refine blk_alloc ?_ _)); exact BK254.out⟩, ⟨by repeat (first | (with_reducible first | exact HB.out | apply below_alloc | apply pw_below_drewN | apply below_drew1 | refine below_set ?_ GE245.out | refine below_set ?_ GE254.out) | exact HB.out)⟩⟩
      case rest =>
        clear HC13
        try clear c1
        try clear c2
        try clear p2
        try clear c3
        try clear c6
        try clear c9
        try clear c10
        try clear c11
        try clear c12
        try clear c13
        try clear c21
        try clear c26
        try clear c26b0
        try clear c26b1
        try clear c26b2
        try clear hcz16_0
        try clear hcz16_1
        try clear hcz22_0
        try clear hcz22_1
        try clear hfz16_0
        try clear hfz16_1
        try clear hfz22_0
        try clear hfz22_1
        obtain ⟨kq, x34_12, rfl, HA, HJ12, HO_255000, HO_255001, BK245, BK254, HB⟩ := hcut
        cases kq with
        | zero => exact absurd HA.out (by simp [damperlaw5_TableRight.j0])
        | succ kj12 =>
          have H := HA.out
          clear HA
          simp only [damperlaw5_TableRight.j0] at H
          by_cases c37 : x34_12 = true
          · subst c37
            have H1 : (some false) = some r := by rw [if_pos rfl] at H; exact H
            clear H
            have H := H1
            clear H1
            exact absurd (Option.some.inj H) (by rw [hr0_.out]; decide)
          · replace c37 := Bool.eq_false_iff.mpr c37
            subst c37
            have H1 : (if (t248.length : Int) = 0 then (none) else (if (wi a3 7) = 0 then (if 0 ≤ (wi a4 (t248.length : Int)) then (if (wi a4 (t248.length : Int)) < (t248.length : Int) then ((some (([0, (-1), 100, 101, wrap64 (((rd_T32 t248 (wi a4 (t248.length : Int))).f1) + 1), a5] : List Int) : List Int)).bind fun y259 => (if 0 ≤ (wi a5 6) then (if (wi a5 6) < (y259.length : Int) then (damperlaw5_TableRight.j1 kj12 (t248.set ((wi a4 (t248.length : Int)) : Int).toNat (⟨(rd_T32 t248 (wi a4 (t248.length : Int))).f0, rd y259 (wi a5 6)⟩ : S32)) t251) else (none)) else (none))) else (none)) else (none)) else (if (wi a3 7) = 1 then ((damperlaw1_Text.f kj12 l6).bind fun t264 => (if 4 + t264.size ≤ 9223372036854775807 then (if 0 ≤ (wi a4 (t248.length : Int)) then (if (wi a4 (t248.length : Int)) < (t248.length : Int) then (damperlaw5_TableRight.j1 kj12 (t248.set ((wi a4 (t248.length : Int)) : Int).toNat (⟨(⟨#[119, 101, 98, 45]⟩ : ByteArray) ++ t264, (rd_T32 t248 (wi a4 (t248.length : Int))).f1⟩ : S32)) t251) else (none)) else (none)) else (none))) else (if (wi a3 7) = 2 then (if 0 < (t248.length : Int) then (if 0 ≤ (wi a4 (t248.length : Int)) then (if (wi a4 (t248.length : Int)) < (t248.length : Int) then (damperlaw5_TableRight.j1 kj12 ((t248.set ((wi a4 (t248.length : Int)) : Int).toNat (⟨(rd_T32 t248 0).f0, (rd_T32 t248 0).f1⟩ : S32)).set (0 : Int).toNat (⟨(rd_T32 t248 (wi a4 (t248.length : Int))).f0, (rd_T32 t248 (wi a4 (t248.length : Int))).f1⟩ : S32)) t251) else (none)) else (none)) else (none)) else (if (wi a3 7) = 3 then (if t248.length < 5864062014805 then (damperlaw5_TableRight.j1 kj12 (t248 ++ [(⟨(⟨#[119, 101, 98, 45, 57]⟩ : ByteArray), 0⟩ : S32)]) t251) else (none)) else (if (wi a3 7) = 4 then ((damperlaw1_Text.f kj12 l6).bind fun t273 => (if t251.length < 4398046511104 then (damperlaw5_TableRight.j1 kj12 t248 (t251 ++ [(⟨t273, (⟨#[119, 101, 98, 45, 49]⟩ : ByteArray)⟩ : S35)])) else (none))) else (if (wi a3 7) = 5 then ((damperlaw1_Text.f kj12 l6).bind fun t277 => (if t277.size + 2 ≤ 9223372036854775807 then (if t251.length < 4398046511104 then (damperlaw5_TableRight.j1 kj12 t248 (t251 ++ [(⟨(⟨#[116, 57]⟩ : ByteArray), t277 ++ (⟨#[45, 49]⟩ : ByteArray)⟩ : S35)])) else (none)) else (none))) else (if (wi a3 7) = 6 then (if 0 ≤ (wi a5 (t248.length : Int)) then (if (wi a5 (t248.length : Int)) ≤ (t248.length : Int) then (damperlaw5_TableRight.j1 kj12 (t248.take ((wi a5 (t248.length : Int)) : Int).toNat) t251) else (none)) else (none)) else (damperlaw5_TableRight.j1 kj12 t248 t251))))))))) = some r := by rw [if_neg (show ¬ (false = true) by decide)] at H; exact H
            clear H
            have H := H1
            clear H1
            by_cases c38 : (t248.length : Int) = 0
            · rw [if_pos c38] at H
              exact absurd H (by simp)
            rw [if_neg c38] at H
            have c38b0 : ((t248.length : Int) == 0) = false := beq_eq_false_iff_ne.mpr c38
            have c38b1 : ((t248.length : Int) != 0) = true := bne_iff_ne.mpr c38
            have c38b2 : ¬ (t248 = []) := fun h_ => c38 (by rw [h_]; rfl)
            obtain ⟨ji39, hji39⟩ : ∃ j_ : Int, (wi a4 (t248.length : Int)) = j_ := ⟨_, rfl⟩
            replace H : (if (wi a3 7) = 0 then (if 0 ≤ (ji39) then (if (ji39) < (t248.length : Int) then ((some (([0, (-1), 100, 101, wrap64 (((rd_T32 t248 (ji39)).f1) + 1), a5] : List Int) : List Int)).bind fun y259 => (if 0 ≤ (wi a5 6) then (if (wi a5 6) < (y259.length : Int) then (damperlaw5_TableRight.j1 kj12 (t248.set ((ji39) : Int).toNat (⟨(rd_T32 t248 (ji39)).f0, rd y259 (wi a5 6)⟩ : S32)) t251) else (none)) else (none))) else (none)) else (none)) else (if (wi a3 7) = 1 then ((damperlaw1_Text.f kj12 l6).bind fun t264 => (if 4 + t264.size ≤ 9223372036854775807 then (if 0 ≤ (ji39) then (if (ji39) < (t248.length : Int) then (damperlaw5_TableRight.j1 kj12 (t248.set ((ji39) : Int).toNat (⟨(⟨#[119, 101, 98, 45]⟩ : ByteArray) ++ t264, (rd_T32 t248 (ji39)).f1⟩ : S32)) t251) else (none)) else (none)) else (none))) else (if (wi a3 7) = 2 then (if 0 < (t248.length : Int) then (if 0 ≤ (ji39) then (if (ji39) < (t248.length : Int) then (damperlaw5_TableRight.j1 kj12 ((t248.set ((ji39) : Int).toNat (⟨(rd_T32 t248 0).f0, (rd_T32 t248 0).f1⟩ : S32)).set (0 : Int).toNat (⟨(rd_T32 t248 (ji39)).f0, (rd_T32 t248 (ji39)).f1⟩ : S32)) t251) else (none)) else (none)) else (none)) else (if (wi a3 7) = 3 then (if t248.length < 5864062014805 then (damperlaw5_TableRight.j1 kj12 (t248 ++ [(⟨(⟨#[119, 101, 98, 45, 57]⟩ : ByteArray), 0⟩ : S32)]) t251) else (none)) else (if (wi a3 7) = 4 then ((damperlaw1_Text.f kj12 l6).bind fun t273 => (if t251.length < 4398046511104 then (damperlaw5_TableRight.j1 kj12 t248 (t251 ++ [(⟨t273, (⟨#[119, 101, 98, 45, 49]⟩ : ByteArray)⟩ : S35)])) else (none))) else (if (wi a3 7) = 5 then ((damperlaw1_Text.f kj12 l6).bind fun t277 => (if t277.size + 2 ≤ 9223372036854775807 then (if t251.length < 4398046511104 then (damperlaw5_TableRight.j1 kj12 t248 (t251 ++ [(⟨(⟨#[116, 57]⟩ : ByteArray), t277 ++ (⟨#[45, 49]⟩ : ByteArray)⟩ : S35)])) else (none)) else (none))) else (if (wi a3 7) = 6 then (if 0 ≤ (wi a5 (t248.length : Int)) then (if (wi a5 (t248.length : Int)) ≤ (t248.length : Int) then (damperlaw5_TableRight.j1 kj12 (t248.take ((wi a5 (t248.length : Int)) : Int).toNat) t251) else (none)) else (none)) else (damperlaw5_TableRight.j1 kj12 t248 t251)))))))) = some r := by first | (rw [hji39] at H; exact H) | (simp only [hji39] at H ⊢; exact H)
            obtain ⟨ji40, hji40⟩ : ∃ j_ : Int, (wi a3 7) = j_ := ⟨_, rfl⟩
            replace H : (if (ji40) = 0 then (if 0 ≤ (ji39) then (if (ji39) < (t248.length : Int) then ((some (([0, (-1), 100, 101, wrap64 (((rd_T32 t248 (ji39)).f1) + 1), a5] : List Int) : List Int)).bind fun y259 => (if 0 ≤ (wi a5 6) then (if (wi a5 6) < (y259.length : Int) then (damperlaw5_TableRight.j1 kj12 (t248.set ((ji39) : Int).toNat (⟨(rd_T32 t248 (ji39)).f0, rd y259 (wi a5 6)⟩ : S32)) t251) else (none)) else (none))) else (none)) else (none)) else (if (ji40) = 1 then ((damperlaw1_Text.f kj12 l6).bind fun t264 => (if 4 + t264.size ≤ 9223372036854775807 then (if 0 ≤ (ji39) then (if (ji39) < (t248.length : Int) then (damperlaw5_TableRight.j1 kj12 (t248.set ((ji39) : Int).toNat (⟨(⟨#[119, 101, 98, 45]⟩ : ByteArray) ++ t264, (rd_T32 t248 (ji39)).f1⟩ : S32)) t251) else (none)) else (none)) else (none))) else (if (ji40) = 2 then (if 0 < (t248.length : Int) then (if 0 ≤ (ji39) then (if (ji39) < (t248.length : Int) then (damperlaw5_TableRight.j1 kj12 ((t248.set ((ji39) : Int).toNat (⟨(rd_T32 t248 0).f0, (rd_T32 t248 0).f1⟩ : S32)).set (0 : Int).toNat (⟨(rd_T32 t248 (ji39)).f0, (rd_T32 t248 (ji39)).f1⟩ : S32)) t251) else (none)) else (none)) else (none)) else (if (ji40) = 3 then (if t248.length < 5864062014805 then (damperlaw5_TableRight.j1 kj12 (t248 ++ [(⟨(⟨#[119, 101, 98, 45, 57]⟩ : ByteArray), 0⟩ : S32)]) t251) else (none)) else (if (ji40) = 4 then ((damperlaw1_Text.f kj12 l6).bind fun t273 => (if t251.length < 4398046511104 then (damperlaw5_TableRight.j1 kj12 t248 (t251 ++ [(⟨t273, (⟨#[119, 101, 98, 45, 49]⟩ : ByteArray)⟩ : S35)])) else (none))) else (if (ji40) = 5 then ((damperlaw1_Text.f kj12 l6).bind fun t277 => (if t277.size + 2 ≤ 9223372036854775807 then (if t251.length < 4398046511104 then (damperlaw5_TableRight.j1 kj12 t248 (t251 ++ [(⟨(⟨#[116, 57]⟩ : ByteArray), t277 ++ (⟨#[45, 49]⟩ : ByteArray)⟩ : S35)])) else (none)) else (none))) else (if (ji40) = 6 then (if 0 ≤ (wi a5 (t248.length : Int)) then (if (wi a5 (t248.length : Int)) ≤ (t248.length : Int) then (damperlaw5_TableRight.j1 kj12 (t248.take ((wi a5 (t248.length : Int)) : Int).toNat) t251) else (none)) else (none)) else (damperlaw5_TableRight.j1 kj12 t248 t251)))))))) = some r := by first | (rw [hji40] at H; exact H) | (simp only [hji40] at H ⊢; exact H)
            have HC41 := Aside0.mk H
            clear H
            have hnb42 := NB254_245.out
            have hnc42 := NB245_254.out
            have hcz43_0 : wc.cell? ⟨gb254, 0, none⟩ = some (.slice Ao20 t248.length co20) := bc BK254 0
            have hcz43_1 : wc.cell? ⟨gb254, 1, none⟩ = some (.slice Ao23 t251.length co23) := bc BK254 1
            have hfz43_0 := blk_frozen BK254.out 0
            have hfz43_1 := blk_frozen BK254.out 1
            go_upto_block 0 with (first | (go_at_call 14; refine (damperlaw5_within.keep _ _ rfl (by first | decide | assumption | exact wi_ne (by assumption) | exact wi_ne' (by assumption) | omega) _).mono ?_; rintro e w' ⟨rfl, rfl⟩))
            go_cut [] (fun wc => ∃ (kq : Nat) (x255000_40 : List (S32)) (x255001_40 : List (S35)) (u255000 : Value) (u255001 : Value), Aside0 (damperlaw5_TableRight.j1 kq x255000_40 x255001_40 = some r) ∧ Aside0 (kq ≤ kj12) ∧ Aside0 (Kd.R k32 32 wc w.heap.size (fun _ => True) u255000 x255000_40) ∧ Aside0 (Kd.R k35 35 wc w.heap.size (fun _ => True) u255001 x255001_40) ∧ Aside0 (wc.heap[gb245]? = some (.cells #[(.slice A0_0 l0_0.length c0_0), (.slice A0_1 l0_1.length c0_1)] 25 (0, 0))) ∧ Aside0 (wc.heap[gb254]? = some (.cells #[u255000, u255001] 25 (0, 0))) ∧ Aside0 (Below w.heap.size w wc))
            case first =>
              have H := HC41.out
              clear HC41
              by_cases c44 : (ji40) = 0
              · rw [if_pos c44] at H
                have c44b0 : ((ji40) == 0) = true := beq_iff_eq.mpr c44
                have c44b1 : ((ji40) != 0) = false := bne_eq_false_iff_eq.mpr c44
                clear c44
                (first | rw [c44b0] | (simp only [i64_w, i32_w]; rw [c44b0]) | rw [c44b1] | skip)
                by_cases c45 : 0 ≤ (ji39)
                rotate_left
                · rw [if_neg c45] at H
                  exact absurd H (by simp)
                rw [if_pos c45] at H
                have c45b0 : decide (0 ≤ (ji39)) = true := decide_eq_true c45
                clear c45
                by_cases c46 : (ji39) < (t248.length : Int)
                rotate_left
                · rw [if_neg c46] at H
                  exact absurd H (by simp)
                rw [if_pos c46] at H
                have c46b0 : decide ((ji39) < (t248.length : Int)) = true := decide_eq_true c46
                clear c46
                obtain ⟨y259, hy259⟩ : ∃ y_ : List Int, y_ = (([0, (-1), 100, 101, wrap64 (((rd_T32 t248 (ji39)).f1) + 1), a5] : List Int)) := ⟨_, rfl⟩
                replace H : (if 0 ≤ (wi a5 6) then (if (wi a5 6) < (y259.length : Int) then (damperlaw5_TableRight.j1 kj12 (t248.set ((ji39) : Int).toNat (⟨(rd_T32 t248 (ji39)).f0, rd y259 (wi a5 6)⟩ : S32)) t251) else (none)) else (none)) = some r := by first | (rw [hy259]; with_reducible exact H) | (have H2_ := (Option.bind_some _ _).symm.trans H; rw [hy259]; with_reducible exact H2_) | (have H2_ := (Option.bind_some _ _).symm.trans H; with_reducible exact H2_) | with_reducible exact H | (rw [hy259]; exact H) | exact H
                have Ny259 := Aside0.mk hy259
                clear hy259
                obtain ⟨ji47, hji47⟩ : ∃ j_ : Int, (wi a5 6) = j_ := ⟨_, rfl⟩
                replace H : (if 0 ≤ (ji47) then (if (ji47) < (y259.length : Int) then (damperlaw5_TableRight.j1 kj12 (t248.set ((ji39) : Int).toNat (⟨(rd_T32 t248 (ji39)).f0, rd y259 (ji47)⟩ : S32)) t251) else (none)) else (none)) = some r := by first | (rw [hji47] at H; exact H) | (simp only [hji47] at H ⊢; exact H)
                by_cases c48 : 0 ≤ (ji47)
                rotate_left
                · rw [if_neg c48] at H
                  exact absurd H (by simp)
                rw [if_pos c48] at H
                have c48b0 : decide (0 ≤ (ji47)) = true := decide_eq_true c48
                clear c48
                by_cases c49 : (ji47) < (y259.length : Int)
                rotate_left
                · rw [if_neg c49] at H
                  exact absurd H (by simp)
                rw [if_pos c49] at H
                have c49b0 : decide ((ji47) < (y259.length : Int)) = true := decide_eq_true c49
                clear c49
                obtain ⟨y263, hy263⟩ : ∃ y_ : List (S32), y_ = (t248.set ((ji39) : Int).toNat (⟨(rd_T32 t248 (ji39)).f0, rd y259 (ji47)⟩ : S32)) := ⟨_, rfl⟩
                replace H : (damperlaw5_TableRight.j1 kj12 y263 t251) = some r := by first | (rw [hy263]; with_reducible exact H) | (have H2_ := (Option.bind_some _ _).symm.trans H; rw [hy263]; with_reducible exact H2_) | (have H2_ := (Option.bind_some _ _).symm.trans H; with_reducible exact H2_) | with_reducible exact H | (rw [hy263]; exact H) | exact H
                have Ny263 := Aside0.mk hy263
                clear hy263
                have H' := Aside0.mk H
                clear H
                try go_wp2_with (first | (go_at_call 14; refine (damperlaw5_within.keep _ _ rfl (by first | decide | assumption | exact wi_ne (by assumption) | exact wi_ne' (by assumption) | omega) _).mono ?_; rintro e w' ⟨rfl, rfl⟩))
                have pi262 : (0 ≤ ((ji47) : Int)) = True := eq_true (of_decide_eq_true (by first | (with_reducible assumption) | assumption))
                have qi262 : ((ji47) < (y259.length : Int)) = True := eq_true (of_decide_eq_true (by first | (with_reducible assumption) | assumption))
                replace HO_255000 := Aside0.mk (Kd.R_drew HO_255000.out)
                replace HO_255001 := Aside0.mk (Kd.R_drew HO_255001.out)
                replace BK245 := Aside0.mk (blk_drew BK245.out)
                replace BK254 := Aside0.mk (blk_drew BK254.out)
                replace HB := Aside0.mk (below_drew1 HB.out)
                have p258 : 0 ≤ ((ji39) : Int) := of_decide_eq_true (by first | (with_reducible assumption) | assumption)
                have q258 : (ji39) < (t248.length : Int) := of_decide_eq_true (by first | (with_reducible assumption) | assumption)
                obtain ⟨ad258, e258, hx258_0, hx258_1⟩ := at_T32 (Kd.R_reads' HO_255000.out).2.2 (ji39) p258 q258
                cases e258
                replace p258 := eq_true p258
                replace q258 := eq_true q258
                refine start_ (n := 19) (S := fun w' => w'.cell? ⟨gb254, 0, none⟩ = some (.slice (some ad258) t248.length co20) ∧ w'.cell? ⟨gb254, 1, none⟩ = some (.slice Ao23 t251.length co23) ∧ w'.cell? (ad258.add (((ji39)).toNat * 2)) = some (.string ((rd_T32 t248 (ji39)).f0)) ∧ w'.cell? ⟨(ad258.add (((ji39)).toNat * 2)).block, (ad258.add (((ji39)).toNat * 2)).off + 1, none⟩ = some (.int .i64 ((rd_T32 t248 (ji39)).f1))) (ds := [18]) #[false, false, false, false, false, false, false, false, false, false, false, false, false, false, false, false, false, false, false] (by kernel_rfl) rfl rfl ⟨bc BK254 0, bc BK254 1, hx258_0, hx258_1⟩ (fun hHeld => ?_); refine with_tabW damperlaw5_TableRight.tab11 damperlaw5_TableRight.bits11 (fun HT_ HW_ => ?_)
                generalize wc.drew = w51 at HO_255000 HO_255001 BK245 BK254 HB hx258_0 hx258_1 hHeld ⊢
                refine pure_ (i := 0) (N := some 44) (v := ?_) (a' := ?_) #[true, false, false, false, false, false, false, false, false, false, false, false, false, false, false, false, false, false, false] rfl rfl (any_of HT_.out (by kernel_rfl)) (fun _ _ _ h => h) (Or.inl ⟨by rfl, ?_⟩) ?_ ?_
                rotate_left
                · intro w'
                  go_simp
                  with_reducible rfl
                rotate_left
                · simp only [Act.put, List.setIfInBounds_toArray, List.set_cons_zero, List.set_cons_succ, i64_w, i32_w]
                  rfl
                refine pure_ (i := 2) (N := some 46) (v := ?_) (a' := ?_) #[true, false, true, false, false, false, false, false, false, false, false, false, false, false, false, false, false, false, false] rfl rfl (any_of HT_.out (by kernel_rfl)) (fun _ _ _ h => h) (Or.inl ⟨by rfl, ?_⟩) ?_ ?_
                rotate_left
                · intro w'
                  go_simp
                  with_reducible rfl
                rotate_left
                · simp only [Act.put, List.setIfInBounds_toArray, List.set_cons_zero, List.set_cons_succ, i64_w, i32_w]
                  rfl
                refine pure_ (i := 3) (N := some 47) (v := ?_) (a' := ?_) #[true, false, true, true, false, false, false, false, false, false, false, false, false, false, false, false, false, false, false] rfl rfl (any_of HT_.out (by kernel_rfl)) (fun _ _ _ h => h) (Or.inl ⟨by rfl, ?_⟩) ?_ ?_
                rotate_left
                · intro w'
                  go_simp
                  with_reducible rfl
                rotate_left
                · simp only [Act.put, List.setIfInBounds_toArray, List.set_cons_zero, List.set_cons_succ, i64_w, i32_w]
                  rfl
                refine pure_ (i := 5) (N := some 49) (v := ?_) (a' := ?_) #[true, false, true, true, false, true, false, false, false, false, false, false, false, false, false, false, false, false, false] rfl rfl (any_of HT_.out (by kernel_rfl)) (fun _ _ _ h => h) (Or.inl ⟨by rfl, ?_⟩) ?_ ?_
                rotate_left
                · intro w'
                  go_simp
                  with_reducible rfl
                rotate_left
                · simp only [Act.put, List.setIfInBounds_toArray, List.set_cons_zero, List.set_cons_succ, i64_w, i32_w]
                  rfl
                refine pure_ (i := 10) (N := some 54) (v := ?_) (a' := ?_) #[true, false, true, true, false, true, false, false, false, false, true, false, false, false, false, false, false, false, false] rfl rfl (any_of HT_.out (by kernel_rfl)) (fun _ _ _ h => h) (Or.inl ⟨by rfl, ?_⟩) ?_ ?_
                rotate_left
                · intro w'
                  go_simp
                  with_reducible rfl
                rotate_left
                · simp only [Act.put, List.setIfInBounds_toArray, List.set_cons_zero, List.set_cons_succ, i64_w, i32_w]
                  rfl
                refine pure_ (i := 12) (N := some 56) (v := ?_) (a' := ?_) #[true, false, true, true, false, true, false, false, false, false, true, false, true, false, false, false, false, false, false] rfl rfl (any_of HT_.out (by kernel_rfl)) (fun _ _ _ h => h) (Or.inl ⟨by rfl, ?_⟩) ?_ ?_
                rotate_left
                · intro w'
                  go_simp
                  with_reducible rfl
                rotate_left
                · simp only [Act.put, List.setIfInBounds_toArray, List.set_cons_zero, List.set_cons_succ, i64_w, i32_w]
                  rfl
                refine callp_ (i := 13) (N := some 57) (a' := ?a4_) #[true, false, true, true, false, true, false, false, false, false, true, false, true, true, false, false, false, false, false] rfl rfl (by kernel_rfl) (fun _ _ _ h => h) (by rfl) Tryd.func14 (by kernel_rfl) rfl rfl (by (try simp only [List.map_toArray, List.map_cons, List.map_nil]); rfl) (damperlaw5_within.same _ _ (r := ?jj4_) ?hj4_ (by first | decide | assumption | exact wi_ne (by assumption) | exact wi_ne' (by assumption) | omega)) ?ha4_ ?h4_
                (case hj4_ => (try simp only [i64_w, i32_w]); first | assumption | (go_simp; rfl))
                (case ha4_ => simp only [Act.put, List.setIfInBounds_toArray, List.set_cons_zero, List.set_cons_succ, i64_w, i32_w]; rfl)
                refine take_ (i := 1) (N := some 45) (v := ?_) (a' := ?_) #[true, true, true, true, false, true, false, false, false, false, true, false, true, true, false, false, false, false, false] rfl rfl (take_ofW HT_.out HW_.out (by kernel_rfl)) (fun _ _ _ h => h) (Or.inl ⟨by rfl, ?_⟩) hHeld ?_ ?_
                rotate_left
                · rintro w' ⟨s0, s1, s2, s3⟩
                  go_simp
                  with_reducible rfl
                rotate_left
                · simp only [Act.put, List.setIfInBounds_toArray, List.set_cons_zero, List.set_cons_succ, i64_w, i32_w]
                  rfl
                refine take_ (i := 4) (N := some 48) (v := ?_) (a' := ?_) #[true, true, true, true, true, true, false, false, false, false, true, false, true, true, false, false, false, false, false] rfl rfl (take_ofW HT_.out HW_.out (by kernel_rfl)) (fun _ _ _ h => h) (Or.inl ⟨by rfl, ?_⟩) hHeld ?_ ?_
                rotate_left
                · rintro w' ⟨s0, s1, s2, s3⟩
                  go_simp
                  with_reducible rfl
                rotate_left
                · simp only [Act.put, List.setIfInBounds_toArray, List.set_cons_zero, List.set_cons_succ, i64_w, i32_w]
                  rfl
                refine pure_ (i := 6) (N := some 50) (v := ?_) (a' := ?_) #[true, true, true, true, true, true, true, false, false, false, true, false, true, true, false, false, false, false, false] rfl rfl (any_of HT_.out (by kernel_rfl)) (fun _ _ _ h => h) (Or.inl ⟨by rfl, ?_⟩) ?_ ?_
                rotate_left
                · intro w'
                  go_simp
                  with_reducible rfl
                rotate_left
                · simp only [Act.put, List.setIfInBounds_toArray, List.set_cons_zero, List.set_cons_succ, i64_w, i32_w]
                  rfl
                refine pure_ (i := 7) (N := some 51) (v := ?_) (a' := ?_) #[true, true, true, true, true, true, true, true, false, false, true, false, true, true, false, false, false, false, false] rfl rfl (any_of HT_.out (by kernel_rfl)) (fun _ _ _ h => h) (Or.inl ⟨by rfl, ?_⟩) ?_ ?_
                rotate_left
                · intro w'
                  go_simp
                  with_reducible rfl
                rotate_left
                · simp only [Act.put, List.setIfInBounds_toArray, List.set_cons_zero, List.set_cons_succ, i64_w, i32_w]
                  rfl
                refine take_ (i := 8) (N := some 52) (v := ?_) (a' := ?_) #[true, true, true, true, true, true, true, true, true, false, true, false, true, true, false, false, false, false, false] rfl rfl (take_ofW HT_.out HW_.out (by kernel_rfl)) (fun _ _ _ h => h) (Or.inl ⟨by rfl, ?_⟩) hHeld ?_ ?_
                rotate_left
                · rintro w' ⟨s0, s1, s2, s3⟩
                  go_simp
                  with_reducible rfl
                rotate_left
                · simp only [Act.put, List.setIfInBounds_toArray, List.set_cons_zero, List.set_cons_succ, i64_w, i32_w]
                  rfl
                refine pure_ (i := 9) (N := some 53) (v := ?_) (a' := ?_) #[true, true, true, true, true, true, true, true, true, true, true, false, true, true, false, false, false, false, false] rfl rfl (any_of HT_.out (by kernel_rfl)) (fun _ _ _ h => h) (Or.inl ⟨by rfl, ?_⟩) ?_ ?_
                rotate_left
                · intro w'
                  go_simp
                  with_reducible rfl
                rotate_left
                · simp only [Act.put, List.setIfInBounds_toArray, List.set_cons_zero, List.set_cons_succ, i64_w, i32_w]
                  rfl
                refine one_ (i := 11) (N := some 55) #[true, true, true, true, true, true, true, true, true, true, true, true, true, true, false, false, false, false, false] rfl rfl (one_of HT_.out (by kernel_rfl)) (by decide) (fun K hK => ?_)
                refine Kd.R_lit_step (Kd.int .i64) _ 3 ?hg (N := 55) ?hd (xs := ([0, (-1), 100, 101, wrap64 (((rd_T32 t248 (ji39)).f1) + 1), a5] : List Int)) (inner := [.int .i64 0, .int .i64 (-1), .int .i64 100, .int .i64 101, .int .i64 (wrap64 (((rd_T32 t248 (ji39)).f1) + 1)), .int .i64 a5]) (ok := fun _ => True) (okp := fun _ => True) ?hr ?hp (fun _ hk => hk) trivial (Below.refl _ _) (Nat.le_refl _) (by simp) ?_; (case hd => rfl); (case hg => rfl); (case hr => first | (go_simp; done) | (go_simp; rfl)); (case hp => exact (Reps.one (show Kd.M (Kd.int .i64) _ _ _ 0 [.int .i64 0] from rfl) (Reps.one (show Kd.M (Kd.int .i64) _ _ _ (-1) [.int .i64 (-1)] from rfl) (Reps.one (show Kd.M (Kd.int .i64) _ _ _ 100 [.int .i64 100] from rfl) (Reps.one (show Kd.M (Kd.int .i64) _ _ _ 101 [.int .i64 101] from rfl) (Reps.one (show Kd.M (Kd.int .i64) _ _ _ (wrap64 (((rd_T32 t248 (ji39)).f1) + 1)) [.int .i64 (wrap64 (((rd_T32 t248 (ji39)).f1) + 1))] from rfl) (Reps.one (show Kd.M (Kd.int .i64) _ _ _ a5 [.int .i64 a5] from rfl) (Reps.none _ _))))))))
                intro v260 w52 ho53 hb hg_ hnew_
                have HS2_ := (hb.cell (World.block_lt_of_cell? _ _ (hHeld.2.2.1))).trans (hHeld.2.2.1)
                have HS3_ := (hb.cell (World.block_lt_of_cell? _ _ (hHeld.2.2.2))).trans (hHeld.2.2.2)
                clear hg_ hnew_
                (first | rw [← Ny259.out] at ho53 | (simp only [Int.reduceToNat] at ho53; rw [← Ny259.out] at ho53))
                have HO261 := Aside0.mk (Kd.R_lower ho53 (below_size (by repeat (first | (with_reducible first | exact HB.out | apply below_alloc | apply pw_below_drewN | apply below_drew1 | refine below_set ?_ GE245.out | refine below_set ?_ GE254.out) | exact HB.out))))
                replace HO_255000 := Aside0.mk (Kd.R_below (by (with_reducible repeat (first | apply Kd.R_alloc | apply Kd.R_drewN | apply Kd.R_drew)); exact HO_255000.out) hb)
                replace HO_255001 := Aside0.mk (Kd.R_below (by (with_reducible repeat (first | apply Kd.R_alloc | apply Kd.R_drewN | apply Kd.R_drew)); exact HO_255001.out) hb)
                replace BK245 := Aside0.mk (blk_below (g := gb245) (pk BK245) hb)
                replace BK254 := Aside0.mk (blk_below (g := gb254) (pk BK254) hb)
                replace HB := Aside0.mk (below_step (by repeat (first | (with_reducible first | exact HB.out | apply below_alloc | apply pw_below_drewN | apply below_drew1 | refine below_set ?_ GE245.out | refine below_set ?_ GE254.out) | exact HB.out)) hb)
                clear hb ho53
                obtain ⟨Ao54, co54, eo54⟩ := Kd.R_slice HO261.out
                subst eo54
                obtain ⟨ado54, fo54, _⟩ := Kd.at_int (Kd.R_reads' HO261.out).2.2 0 (by decide) (by rw [Ny259.out]; simp)
                cases fo54
                have p50 : 0 ≤ ((ji39) : Int) := of_decide_eq_true (by first | (with_reducible assumption) | assumption)
                have q50 : ((ji39) : Int) < ((t248.length : Int) : Int) := of_decide_eq_true (by first | (with_reducible assumption) | assumption)
                obtain ⟨go50, co50, eo50, gb50, gl50, cl50, HG50⟩ := Kd.R_form HO_255000.out (by omega)
                (first | cases eo50 | (injection eo50 with ea_ en_ ec_; (first | subst ea_ | (injection ea_ with ea_; subst ea_)); subst ec_; clear en_))
                have GB50 := Aside0.mk gb50
                have GG50 := Aside0.mk HG50
                clear gb50 gl50 HG50
                (first | simp only [add_plain] at hx258_0 | skip)
                (first | simp only [add_plain] at hx258_1 | skip)
                obtain ⟨ce50, hcl50, hM50, hcc50, hfr50⟩ := Kd.R_elem HO_255000.out z32 ((ji39) : Int) p50 q50
                obtain rfl := k32_openM hM50
                have hx50_0 : World.cell? _ ⟨go50, ((ji39) : Int).toNat * 2, none⟩ = some (.string ((rd_T32 t248 (ji39)).f0)) := hcc50 0 _ rfl
                have hx50_1 : World.cell? _ ⟨go50, ((ji39) : Int).toNat * 2 + 1, none⟩ = some (.int .i64 ((rd_T32 t248 (ji39)).f1)) := hcc50 1 _ rfl
                have hf50_0 : World.frozen? _ ⟨go50, ((ji39) : Int).toNat * 2, none⟩ = false := hfr50 0
                have hf50_1 : World.frozen? _ ⟨go50, ((ji39) : Int).toNat * 2 + 1, none⟩ = false := hfr50 1
                clear hcl50 hcc50 hfr50 hM50
                replace p50 := eq_true p50
                replace q50 := eq_true q50
                obtain ⟨ce55, hcl55, hM55, hcc55, hfr55⟩ := Kd.R_elem HO_255000.out z32 ((ji39) : Int) (of_decide_eq_true (by first | (with_reducible assumption) | assumption)) (by have h_ : ((ji39) : Int) < ((t248.length : Int) : Int) := of_decide_eq_true (by first | (with_reducible assumption) | assumption); first | exact h_ | (have e_ := (Kd.R_reads' HO_255000.out).1; omega) | simpa using h_)
                obtain rfl := k32_openM hM55
                have HP55 := (Kd.R_seg HO_255000.out ((ji39) : Int) (of_decide_eq_true (by first | (with_reducible assumption) | assumption)) (by have h_ : ((ji39) : Int) < ((t248.length : Int) : Int) := of_decide_eq_true (by first | (with_reducible assumption) | assumption); first | exact h_ | (have e_ := (Kd.R_reads' HO_255000.out).1; omega) | simpa using h_) (seg := [.int .i64 (rd y259 (ji47))]) (j := 1) hcl55 hcc55 (show 2 ≤ 2 from by decide) (x' := (⟨(rd_T32 t248 (ji39)).f0, rd y259 (ji47)⟩ : S32)) (k32_mkM _ _ _ (⟨(rd_T32 t248 (ji39)).f0, rd y259 (ji47)⟩ : S32) ) (fun _ hk => hk)).1
                rw [← Ny263.out] at HP55
                have HQ55 := Aside0.mk HP55
                clear hcl55 hcc55 hfr55 hM55 HP55
                refine hK.out _ _ ⟨bc BK254 0, bc BK254 1, HS2_, HS3_⟩ (fun hHeld => ?_)
                clear hK K
                refine norm_ (a' := ?_) ?_ ?_
                rotate_left
                · show Act.put _ (some 55) _ = _
                  simp only [Act.put, List.setIfInBounds_toArray, List.set_cons_zero, List.set_cons_succ, i64_w, i32_w]
                  rfl
                refine pure_ (i := 14) (N := some 58) (v := ?_) (a' := ?_) #[true, true, true, true, true, true, true, true, true, true, true, true, true, true, true, false, false, false, false] rfl rfl (any_of HT_.out (by kernel_rfl)) (fun _ _ _ h => h) (Or.inl ⟨by rfl, ?_⟩) ?_ ?_
                rotate_left
                · intro w'
                  go_simp
                  with_reducible rfl
                rotate_left
                · simp only [Act.put, List.setIfInBounds_toArray, List.set_cons_zero, List.set_cons_succ, i64_w, i32_w]
                  rfl
                refine one_ (i := 15) (N := some 59) #[true, true, true, true, true, true, true, true, true, true, true, true, true, true, true, true, false, false, false] rfl rfl (one_of HT_.out (by kernel_rfl)) (by decide) (fun K hK => ?_)
                (have p262 : 0 ≤ ((ji47) : Int) := of_decide_eq_true (by first | (with_reducible assumption) | assumption); have q262 : (ji47) < (y259.length : Int) := of_decide_eq_true (by first | (with_reducible assumption) | assumption); obtain ⟨ad262, e262, hx262_0⟩ := Kd.at_int (Kd.R_reads' HO261.out).2.2 (ji47) p262 q262; obtain rfl : ado54 = ad262 := (by injection e262))
                with_reducible_and_instances refine value_ (w1 := ?_) (v := ?_) ?hw_ ?hN_ ?_ ?_
                (case hw_ => rfl)
                (case hN_ => rfl)
                rotate_left 2
                · go_simp
                  constructor
                  · rfl
                  · rfl
                clear hx262_0
                refine hK.out _ _ ⟨bc BK254 0, bc BK254 1, hHeld.2.2.1, hHeld.2.2.2⟩ (fun hHeld => ?_)
                clear hK K
                refine norm_ (a' := ?_) ?_ ?_
                rotate_left
                · show Act.put _ (some 59) _ = _
                  simp only [Act.put, List.setIfInBounds_toArray, List.set_cons_zero, List.set_cons_succ, i64_w, i32_w]
                  rfl
                refine pure_ (i := 16) (N := some 60) (v := ?_) (a' := ?_) #[true, true, true, true, true, true, true, true, true, true, true, true, true, true, true, true, true, false, false] rfl rfl (any_of HT_.out (by kernel_rfl)) (fun _ _ _ h => h) (Or.inl ⟨by rfl, ?_⟩) ?_ ?_
                rotate_left
                · intro w'
                  go_simp
                  with_reducible rfl
                rotate_left
                · simp only [Act.put, List.setIfInBounds_toArray, List.set_cons_zero, List.set_cons_succ, i64_w, i32_w]
                  rfl
                refine pure_ (i := 17) (N := some 61) (v := ?_) (a' := ?_) #[true, true, true, true, true, true, true, true, true, true, true, true, true, true, true, true, true, true, false] rfl rfl (any_of HT_.out (by kernel_rfl)) (fun _ _ _ h => h) (Or.inl ⟨by rfl, ?_⟩) ?_ ?_
                rotate_left
                · intro w'
                  go_simp
                  with_reducible rfl
                rotate_left
                · simp only [Act.put, List.setIfInBounds_toArray, List.set_cons_zero, List.set_cons_succ, i64_w, i32_w]
                  rfl
                refine last_ (i := 18) (N := none) #[true, true, true, true, true, true, true, true, true, true, true, true, true, true, true, true, true, true, true] rfl rfl (one_of HT_.out (by kernel_rfl)) (by decide) (fun K hK => ?_)
                with_reducible_and_instances refine skip_ (w1 := ?_) ?hw_ ?hN_ ?_ ?_
                (case hw_ => rfl)
                (case hN_ => rfl)
                rotate_left
                · go_simp
                  rfl
                refine hK.out _ _ ?_
                clear hK K
                refine done_ (done_of HT_.out (by kernel_rfl)) ?_
                try go_wp2_with (first | (go_at_call 14; refine (damperlaw5_within.keep _ _ rfl (by first | decide | assumption | exact wi_ne (by assumption) | exact wi_ne' (by assumption) | omega) _).mono ?_; rintro e w' ⟨rfl, rfl⟩))
                go_meet
                case rel => exact ⟨_, (y263), (t251), (.slice (some ⟨go50, 0, none⟩) t248.length co20), (.slice Ao23 t251.length co23), H', ⟨by have := HJ12.out; first | omega | exact Nat.le_refl _⟩, ⟨by (with_reducible repeat (first | apply Kd.R_alloc | apply Kd.R_drewN | apply Kd.R_drew)); exact HQ55.out⟩, ⟨by (with_reducible repeat (first | apply Kd.R_alloc | apply Kd.R_drewN | apply Kd.R_drew)); exact Kd.R_mono (Kd.R_far (p := ⟨go50, ((ji39) : Int).toNat * 2 + 1, none⟩) (Kd.R_types HO_255001.out GG50.out (by decide)) (fun _ hk => hk.2) (.int .i64 (rd y259 (ji47)))) (fun _ hk => trivial)⟩, ⟨by (with_reducible repeat (first | refine blk_drewN ?_ _ | refine blk_drew ?_ | refine blk_alloc ?_ _)); refine blk_far ?_ (by have h_ := Kd.R_ne HO_255000.out BK245.out (by decide); intro e_; exact h_ (by rw [e_]; rfl)) _; (with_reducible repeat (first | refine blk_drewN ?_ _ | refine blk_drew ?_ | refine blk_alloc ?_ _)); exact BK245.out⟩, ⟨by (with_reducible repeat (first | refine blk_drewN ?_ _ | refine blk_drew ?_ | refine blk_alloc ?_ _)); refine blk_far ?_ (by have h_ := Kd.R_ne HO_255000.out BK254.out (by decide); intro e_; exact h_ (by rw [e_]; rfl)) _; (with_reducible repeat (first | refine blk_drewN ?_ _ | refine blk_drew ?_ | refine blk_alloc ?_ _)); exact BK254.out⟩, ⟨by repeat (first | (with_reducible first | exact HB.out | apply below_alloc | apply pw_below_drewN | apply below_drew1 | refine below_set ?_ GB50.out | refine below_set ?_ GE245.out | refine below_set ?_ GE254.out) | exact HB.out)⟩⟩
              · rw [if_neg c44] at H
                have c44b0 : ((ji40) == 0) = false := beq_eq_false_iff_ne.mpr c44
                have c44b1 : ((ji40) != 0) = true := bne_iff_ne.mpr c44
                (first | rw [c44b0] | (simp only [i64_w, i32_w]; rw [c44b0]) | rw [c44b1] | skip)
                by_cases c56 : (ji40) = 1
                · rw [if_pos c56] at H
                  have c56b0 : ((ji40) == 1) = true := beq_iff_eq.mpr c56
                  have c56b1 : ((ji40) != 1) = false := bne_eq_false_iff_eq.mpr c56
                  clear c56
                  replace H := Option.bind_eq_some_iff.mp H
                  obtain ⟨t264, A570, H⟩ := H
                  replace H : (if 4 + t264.size ≤ 9223372036854775807 then (if 0 ≤ (ji39) then (if (ji39) < (t248.length : Int) then (damperlaw5_TableRight.j1 kj12 (t248.set ((ji39) : Int).toNat (⟨(⟨#[119, 101, 98, 45]⟩ : ByteArray) ++ t264, (rd_T32 t248 (ji39)).f1⟩ : S32)) t251) else (none)) else (none)) else (none)) = some r := H
                  have A57 := Aside0.mk A570
                  clear A570
                  by_cases c58 : 4 + t264.size ≤ 9223372036854775807
                  rotate_left
                  · rw [if_neg c58] at H
                    exact absurd H (by simp)
                  rw [if_pos c58] at H
                  have c58b0 := eq_true c58
                  have c58b1 : decide (4 + t264.size ≤ 9223372036854775807) = true := decide_eq_true c58
                  try have c58b2 : (9223372036854775807 < 4 + t264.size) = False := eq_false (Nat.not_lt.2 c58)
                  try (have c58b4 := c58; simp at c58b4; have c58b5 := eq_false (Nat.not_lt.2 c58b4))
                  by_cases c59 : 0 ≤ (ji39)
                  rotate_left
                  · rw [if_neg c59] at H
                    exact absurd H (by simp)
                  rw [if_pos c59] at H
                  have c59b0 : decide (0 ≤ (ji39)) = true := decide_eq_true c59
                  clear c59
                  by_cases c60 : (ji39) < (t248.length : Int)
                  rotate_left
                  · rw [if_neg c60] at H
                    exact absurd H (by simp)
                  rw [if_pos c60] at H
                  have c60b0 : decide ((ji39) < (t248.length : Int)) = true := decide_eq_true c60
                  clear c60
                  obtain ⟨y265, hy265⟩ : ∃ y_ : List (S32), y_ = (t248.set ((ji39) : Int).toNat (⟨(⟨#[119, 101, 98, 45]⟩ : ByteArray) ++ t264, (rd_T32 t248 (ji39)).f1⟩ : S32)) := ⟨_, rfl⟩
                  replace H : (damperlaw5_TableRight.j1 kj12 y265 t251) = some r := by first | (rw [hy265]; with_reducible exact H) | (have H2_ := (Option.bind_some _ _).symm.trans H; rw [hy265]; with_reducible exact H2_) | (have H2_ := (Option.bind_some _ _).symm.trans H; with_reducible exact H2_) | with_reducible exact H | (rw [hy265]; exact H) | exact H
                  have Ny265 := Aside0.mk hy265
                  clear hy265
                  have H' := Aside0.mk H
                  clear H
                  try go_wp2_with (first | (go_at_call 14; refine (damperlaw5_within.keep _ _ rfl (by first | decide | assumption | exact wi_ne (by assumption) | exact wi_ne' (by assumption) | omega) _).mono ?_; rintro e w' ⟨rfl, rfl⟩))
                  replace HO_255000 := Aside0.mk (Kd.R_drew HO_255000.out)
                  replace HO_255001 := Aside0.mk (Kd.R_drew HO_255001.out)
                  replace BK245 := Aside0.mk (blk_drew BK245.out)
                  replace BK254 := Aside0.mk (blk_drew BK254.out)
                  replace HB := Aside0.mk (below_drew1 HB.out)
                  refine start_ (n := 9) (S := fun w' => w'.cell? ⟨gb254, 0, none⟩ = some (.slice Ao20 t248.length co20) ∧ w'.cell? ⟨gb254, 1, none⟩ = some (.slice Ao23 t251.length co23)) (ds := [8]) #[false, false, false, false, false, false, false, false, false] (by kernel_rfl) rfl rfl ⟨bc BK254 0, bc BK254 1⟩ (fun hHeld => ?_); refine with_tabW damperlaw5_TableRight.tab13 damperlaw5_TableRight.bits13 (fun HT_ HW_ => ?_)
                  generalize wc.drew = w62 at HO_255000 HO_255001 BK245 BK254 HB hHeld ⊢
                  refine pure_ (i := 0) (N := some 64) (v := ?_) (a' := ?_) #[true, false, false, false, false, false, false, false, false] rfl rfl (any_of HT_.out (by kernel_rfl)) (fun _ _ _ h => h) (Or.inl ⟨by rfl, ?_⟩) ?_ ?_
                  rotate_left
                  · intro w'
                    go_simp
                    with_reducible rfl
                  rotate_left
                  · simp only [Act.put, List.setIfInBounds_toArray, List.set_cons_zero, List.set_cons_succ, i64_w, i32_w]
                    rfl
                  refine pure_ (i := 2) (N := some 66) (v := ?_) (a' := ?_) #[true, false, true, false, false, false, false, false, false] rfl rfl (any_of HT_.out (by kernel_rfl)) (fun _ _ _ h => h) (Or.inl ⟨by rfl, ?_⟩) ?_ ?_
                  rotate_left
                  · intro w'
                    go_simp
                    with_reducible rfl
                  rotate_left
                  · simp only [Act.put, List.setIfInBounds_toArray, List.set_cons_zero, List.set_cons_succ, i64_w, i32_w]
                    rfl
                  refine pure_ (i := 3) (N := some 67) (v := ?_) (a' := ?_) #[true, false, true, true, false, false, false, false, false] rfl rfl (any_of HT_.out (by kernel_rfl)) (fun _ _ _ h => h) (Or.inl ⟨by rfl, ?_⟩) ?_ ?_
                  rotate_left
                  · intro w'
                    go_simp
                    with_reducible rfl
                  rotate_left
                  · simp only [Act.put, List.setIfInBounds_toArray, List.set_cons_zero, List.set_cons_succ, i64_w, i32_w]
                    rfl
                  refine take_ (i := 1) (N := some 65) (v := ?_) (a' := ?_) #[true, true, true, true, false, false, false, false, false] rfl rfl (take_ofW HT_.out HW_.out (by kernel_rfl)) (fun _ _ _ h => h) (Or.inl ⟨by rfl, ?_⟩) hHeld ?_ ?_
                  rotate_left
                  · rintro w' ⟨s0, s1⟩
                    go_simp
                    with_reducible rfl
                  rotate_left
                  · simp only [Act.put, List.setIfInBounds_toArray, List.set_cons_zero, List.set_cons_succ, i64_w, i32_w]
                    rfl
                  refine one_ (i := 4) (N := some 68) #[true, true, true, true, true, false, false, false, false] rfl rfl (one_of HT_.out (by kernel_rfl)) (by decide) (fun K hK => ?_)
                  refine goes_ Tryd.func15 (by kernel_rfl) rfl #[.slice A6 l6.length c6] (by rfl) rfl rfl (by (try simp only [List.map_toArray, List.map_cons, List.map_nil]); first | done | rfl | (simp only [List.length_drop, List.length_take]; rfl)) ?_
                  with_reducible refine (damperlaw1_Text.calls kj12 _ _ l6 t264 _ ?side1 ?side2 A57.out).mono ?_
                  (case side1 => repeat (first | exact (Kd.C_below HR6.out HB.out) | (with_reducible refine Kd.C_alloc ?_ _) | (with_reducible refine Kd.C_drewN ?_ _) | (with_reducible refine Kd.C_drew ?_)))
                  (case side2 => exact HC6.out)
                  rintro e w63 ⟨rfl, hb⟩
                  refine ⟨_, rfl, ?_⟩
                  replace HO_255000 := Aside0.mk (Kd.R_below (by (with_reducible repeat (first | apply Kd.R_alloc | apply Kd.R_drewN | apply Kd.R_drew)); exact HO_255000.out) hb)
                  replace HO_255001 := Aside0.mk (Kd.R_below (by (with_reducible repeat (first | apply Kd.R_alloc | apply Kd.R_drewN | apply Kd.R_drew)); exact HO_255001.out) hb)
                  replace BK245 := Aside0.mk (blk_below (g := gb245) (pk BK245) hb)
                  replace BK254 := Aside0.mk (blk_below (g := gb254) (pk BK254) hb)
                  replace HB := Aside0.mk (below_step (by repeat (first | (with_reducible first | exact HB.out | apply below_alloc | apply pw_below_drewN | apply below_drew1 | refine below_set ?_ GE245.out | refine below_set ?_ GE254.out) | exact HB.out)) hb)
                  (try clear hb)
                  (try clear hb2)
                  (try clear hk)
                  (try clear hi)
                  have p61 : 0 ≤ ((ji39) : Int) := of_decide_eq_true (by first | (with_reducible assumption) | assumption)
                  have q61 : ((ji39) : Int) < ((t248.length : Int) : Int) := of_decide_eq_true (by first | (with_reducible assumption) | assumption)
                  obtain ⟨go61, co61, eo61, gb61, gl61, cl61, HG61⟩ := Kd.R_form HO_255000.out (by omega)
                  (first | cases eo61 | (injection eo61 with ea_ en_ ec_; (first | subst ea_ | (injection ea_ with ea_; subst ea_)); subst ec_; clear en_))
                  have GB61 := Aside0.mk gb61
                  have GG61 := Aside0.mk HG61
                  clear gb61 gl61 HG61
                  obtain ⟨ce61, hcl61, hM61, hcc61, hfr61⟩ := Kd.R_elem HO_255000.out z32 ((ji39) : Int) p61 q61
                  obtain rfl := k32_openM hM61
                  have hx61_0 : World.cell? _ ⟨go61, ((ji39) : Int).toNat * 2, none⟩ = some (.string ((rd_T32 t248 (ji39)).f0)) := hcc61 0 _ rfl
                  have hx61_1 : World.cell? _ ⟨go61, ((ji39) : Int).toNat * 2 + 1, none⟩ = some (.int .i64 ((rd_T32 t248 (ji39)).f1)) := hcc61 1 _ rfl
                  have hf61_0 : World.frozen? _ ⟨go61, ((ji39) : Int).toNat * 2, none⟩ = false := hfr61 0
                  have hf61_1 : World.frozen? _ ⟨go61, ((ji39) : Int).toNat * 2 + 1, none⟩ = false := hfr61 1
                  clear hcl61 hcc61 hfr61 hM61
                  replace p61 := eq_true p61
                  replace q61 := eq_true q61
                  obtain ⟨ce64, hcl64, hM64, hcc64, hfr64⟩ := Kd.R_elem HO_255000.out z32 ((ji39) : Int) (of_decide_eq_true (by first | (with_reducible assumption) | assumption)) (by have h_ : ((ji39) : Int) < ((t248.length : Int) : Int) := of_decide_eq_true (by first | (with_reducible assumption) | assumption); first | exact h_ | (have e_ := (Kd.R_reads' HO_255000.out).1; omega) | simpa using h_)
                  obtain rfl := k32_openM hM64
                  have HP64 := (Kd.R_seg HO_255000.out ((ji39) : Int) (of_decide_eq_true (by first | (with_reducible assumption) | assumption)) (by have h_ : ((ji39) : Int) < ((t248.length : Int) : Int) := of_decide_eq_true (by first | (with_reducible assumption) | assumption); first | exact h_ | (have e_ := (Kd.R_reads' HO_255000.out).1; omega) | simpa using h_) (seg := [.string ((⟨#[119, 101, 98, 45]⟩ : ByteArray) ++ t264)]) (j := 0) hcl64 hcc64 (show 1 ≤ 2 from by decide) (x' := (⟨(⟨#[119, 101, 98, 45]⟩ : ByteArray) ++ t264, (rd_T32 t248 (ji39)).f1⟩ : S32)) (k32_mkM _ _ _ (⟨(⟨#[119, 101, 98, 45]⟩ : ByteArray) ++ t264, (rd_T32 t248 (ji39)).f1⟩ : S32) ) (fun _ hk => hk)).1
                  rw [← Ny265.out] at HP64
                  have HQ64 := Aside0.mk HP64
                  clear hcl64 hcc64 hfr64 hM64 HP64
                  refine hK.out _ _ ⟨bc BK254 0, bc BK254 1⟩ (fun hHeld => ?_)
                  clear hK K
                  refine norm_ (a' := ?_) ?_ ?_
                  rotate_left
                  · show Act.put _ (some 68) _ = _
                    simp only [Act.put, List.setIfInBounds_toArray, List.set_cons_zero, List.set_cons_succ, i64_w, i32_w]
                    rfl
                  refine pure_ (i := 5) (N := some 69) (v := ?_) (a' := ?_) #[true, true, true, true, true, true, false, false, false] rfl rfl (any_of HT_.out (by kernel_rfl)) (fun _ _ _ h => h) (Or.inl ⟨by rfl, ?_⟩) ?_ ?_
                  rotate_left
                  · intro w'
                    go_simp
                    with_reducible rfl
                  rotate_left
                  · simp only [Act.put, List.setIfInBounds_toArray, List.set_cons_zero, List.set_cons_succ, i64_w, i32_w]
                    rfl
                  refine pure_ (i := 6) (N := some 70) (v := ?_) (a' := ?_) #[true, true, true, true, true, true, true, false, false] rfl rfl (any_of HT_.out (by kernel_rfl)) (fun _ _ _ h => h) (Or.inl ⟨by rfl, ?_⟩) ?_ ?_
                  rotate_left
                  · intro w'
                    go_simp
                    with_reducible rfl
                  rotate_left
                  · simp only [Act.put, List.setIfInBounds_toArray, List.set_cons_zero, List.set_cons_succ, i64_w, i32_w]
                    rfl
                  refine pure_ (i := 7) (N := some 71) (v := ?_) (a' := ?_) #[true, true, true, true, true, true, true, true, false] rfl rfl (any_of HT_.out (by kernel_rfl)) (fun _ _ _ h => h) (Or.inl ⟨by rfl, ?_⟩) ?_ ?_
                  rotate_left
                  · intro w'
                    go_simp
                    with_reducible rfl
                  rotate_left
                  · simp only [Act.put, List.setIfInBounds_toArray, List.set_cons_zero, List.set_cons_succ, i64_w, i32_w]
                    rfl
                  refine last_ (i := 8) (N := none) #[true, true, true, true, true, true, true, true, true] rfl rfl (one_of HT_.out (by kernel_rfl)) (by decide) (fun K hK => ?_)
                  with_reducible_and_instances refine skip_ (w1 := ?_) ?hw_ ?hN_ ?_ ?_
                  (case hw_ => rfl)
                  (case hN_ => rfl)
                  rotate_left
                  · go_simp
                    rfl
                  refine hK.out _ _ ?_
                  clear hK K
                  refine done_ (done_of HT_.out (by kernel_rfl)) ?_
                  try go_wp2_with (first | (go_at_call 14; refine (damperlaw5_within.keep _ _ rfl (by first | decide | assumption | exact wi_ne (by assumption) | exact wi_ne' (by assumption) | omega) _).mono ?_; rintro e w' ⟨rfl, rfl⟩))
                  go_meet
                  case rel => exact ⟨_, (y265), (t251), (.slice (some ⟨go61, 0, none⟩) t248.length co20), (.slice Ao23 t251.length co23), H', ⟨by have := HJ12.out; first | omega | exact Nat.le_refl _⟩, ⟨by (with_reducible repeat (first | apply Kd.R_alloc | apply Kd.R_drewN | apply Kd.R_drew)); exact HQ64.out⟩, ⟨by (with_reducible repeat (first | apply Kd.R_alloc | apply Kd.R_drewN | apply Kd.R_drew)); exact Kd.R_mono (Kd.R_far (p := ⟨go61, ((ji39) : Int).toNat * 2, none⟩) (Kd.R_types HO_255001.out GG61.out (by decide)) (fun _ hk => hk.2) (.string ((⟨#[119, 101, 98, 45]⟩ : ByteArray) ++ t264))) (fun _ hk => trivial)⟩, ⟨by (with_reducible repeat (first | refine blk_drewN ?_ _ | refine blk_drew ?_ | refine blk_alloc ?_ _)); refine blk_far ?_ (by have h_ := Kd.R_ne HO_255000.out BK245.out (by decide); intro e_; exact h_ (by rw [e_]; rfl)) _; (with_reducible repeat (first | refine blk_drewN ?_ _ | refine blk_drew ?_ | refine blk_alloc ?_ _)); exact BK245.out⟩, ⟨by (with_reducible repeat (first | refine blk_drewN ?_ _ | refine blk_drew ?_ | refine blk_alloc ?_ _)); refine blk_far ?_ (by have h_ := Kd.R_ne HO_255000.out BK254.out (by decide); intro e_; exact h_ (by rw [e_]; rfl)) _; (with_reducible repeat (first | refine blk_drewN ?_ _ | refine blk_drew ?_ | refine blk_alloc ?_ _)); exact BK254.out⟩, ⟨by repeat (first | (with_reducible first | exact HB.out | apply below_alloc | apply pw_below_drewN | apply below_drew1 | refine below_set ?_ GB61.out | refine below_set ?_ GE245.out | refine below_set ?_ GE254.out) | exact HB.out)⟩⟩
                · rw [if_neg c56] at H
                  have c56b0 : ((ji40) == 1) = false := beq_eq_false_iff_ne.mpr c56
                  have c56b1 : ((ji40) != 1) = true := bne_iff_ne.mpr c56
                  by_cases c65 : (ji40) = 2
                  · rw [if_pos c65] at H
                    have c65b0 : ((ji40) == 2) = true := beq_iff_eq.mpr c65
                    have c65b1 : ((ji40) != 2) = false := bne_eq_false_iff_eq.mpr c65
                    clear c65
                    by_cases c66 : 0 < (t248.length : Int)
                    rotate_left
                    · rw [if_neg c66] at H
                      exact absurd H (by simp)
                    rw [if_pos c66] at H
                    have c66b0 : decide (0 < (t248.length : Int)) = true := decide_eq_true c66
                    have c66b1 : decide (0 < t248.length) = true := decide_eq_true (by omega)
                    clear c66
                    by_cases c67 : 0 ≤ (ji39)
                    rotate_left
                    · rw [if_neg c67] at H
                      exact absurd H (by simp)
                    rw [if_pos c67] at H
                    have c67b0 : decide (0 ≤ (ji39)) = true := decide_eq_true c67
                    clear c67
                    by_cases c68 : (ji39) < (t248.length : Int)
                    rotate_left
                    · rw [if_neg c68] at H
                      exact absurd H (by simp)
                    rw [if_pos c68] at H
                    have c68b0 : decide ((ji39) < (t248.length : Int)) = true := decide_eq_true c68
                    clear c68
                    obtain ⟨y268, hy268⟩ : ∃ y_ : List (S32), y_ = (t248.set ((ji39) : Int).toNat (⟨(rd_T32 t248 0).f0, (rd_T32 t248 0).f1⟩ : S32)) := ⟨_, rfl⟩
                    replace H : (damperlaw5_TableRight.j1 kj12 (y268.set (0 : Int).toNat (⟨(rd_T32 t248 (ji39)).f0, (rd_T32 t248 (ji39)).f1⟩ : S32)) t251) = some r := by first | (rw [hy268]; with_reducible exact H) | (have H2_ := (Option.bind_some _ _).symm.trans H; rw [hy268]; with_reducible exact H2_) | (have H2_ := (Option.bind_some _ _).symm.trans H; with_reducible exact H2_) | with_reducible exact H | (rw [hy268]; exact H) | exact H
                    have Ny268 := Aside0.mk hy268
                    clear hy268
                    obtain ⟨y269, hy269⟩ : ∃ y_ : List (S32), y_ = (y268.set (0 : Int).toNat (⟨(rd_T32 t248 (ji39)).f0, (rd_T32 t248 (ji39)).f1⟩ : S32)) := ⟨_, rfl⟩
                    replace H : (damperlaw5_TableRight.j1 kj12 y269 t251) = some r := by first | (rw [hy269]; with_reducible exact H) | (have H2_ := (Option.bind_some _ _).symm.trans H; rw [hy269]; with_reducible exact H2_) | (have H2_ := (Option.bind_some _ _).symm.trans H; with_reducible exact H2_) | with_reducible exact H | (rw [hy269]; exact H) | exact H
                    have Ny269 := Aside0.mk hy269
                    clear hy269
                    have H' := Aside0.mk H
                    clear H
                    try go_wp2_with (first | (go_at_call 14; refine (damperlaw5_within.keep _ _ rfl (by first | decide | assumption | exact wi_ne (by assumption) | exact wi_ne' (by assumption) | omega) _).mono ?_; rintro e w' ⟨rfl, rfl⟩))
                    replace HO_255000 := Aside0.mk (Kd.R_drew HO_255000.out)
                    replace HO_255001 := Aside0.mk (Kd.R_drew HO_255001.out)
                    replace BK245 := Aside0.mk (blk_drew BK245.out)
                    replace BK254 := Aside0.mk (blk_drew BK254.out)
                    replace HB := Aside0.mk (below_drew1 HB.out)
                    have p266 : 0 ≤ (0 : Int) := (by omega)
                    have q266 : 0 < (t248.length : Int) := of_decide_eq_true (by first | (with_reducible assumption) | assumption)
                    obtain ⟨ad266, e266, hx266_0, hx266_1⟩ := at_T32 (Kd.R_reads' HO_255000.out).2.2 0 p266 q266
                    cases e266
                    have qi266 : (0 < t248.length) = True := eq_true (by omega)
                    (try rw [show ((0 : Int)).toNat = 0 from rfl] at hx266_0)
                    (try rw [show 0 * 2 = 0 from rfl] at hx266_0)
                    (try rw [Addr.add_zero'] at hx266_0)
                    (try rw [show ((0 : Int)).toNat = 0 from rfl] at hx266_1)
                    (try rw [show 0 * 2 = 0 from rfl] at hx266_1)
                    (try rw [Addr.add_zero'] at hx266_1)
                    replace p266 := eq_true p266
                    replace q266 := eq_true q266
                    have p267 : 0 ≤ ((ji39) : Int) := of_decide_eq_true (by first | (with_reducible assumption) | assumption)
                    have q267 : (ji39) < (t248.length : Int) := of_decide_eq_true (by first | (with_reducible assumption) | assumption)
                    obtain ⟨ad267, e267, hx267_0, hx267_1⟩ := at_T32 (Kd.R_reads' HO_255000.out).2.2 (ji39) p267 q267
                    obtain rfl : ad266 = ad267 := (by injection e267)
                    replace p267 := eq_true p267
                    replace q267 := eq_true q267
                    have p69 : 0 ≤ ((ji39) : Int) := of_decide_eq_true (by first | (with_reducible assumption) | assumption)
                    have q69 : ((ji39) : Int) < ((t248.length : Int) : Int) := of_decide_eq_true (by first | (with_reducible assumption) | assumption)
                    obtain ⟨go69, co69, eo69, gb69, gl69, cl69, HG69⟩ := Kd.R_form HO_255000.out (by omega)
                    (first | cases eo69 | (injection eo69 with ea_ en_ ec_; (first | subst ea_ | (injection ea_ with ea_; subst ea_)); subst ec_; clear en_))
                    have GB69 := Aside0.mk gb69
                    have GG69 := Aside0.mk HG69
                    clear gb69 gl69 HG69
                    (first | simp only [add_plain] at hx266_0 | skip)
                    (first | simp only [add_plain] at hx266_1 | skip)
                    (first | simp only [add_plain] at hx267_0 | skip)
                    (first | simp only [add_plain] at hx267_1 | skip)
                    obtain ⟨ce69, hcl69, hM69, hcc69, hfr69⟩ := Kd.R_elem HO_255000.out z32 ((ji39) : Int) p69 q69
                    obtain rfl := k32_openM hM69
                    have hx69_0 : World.cell? _ ⟨go69, ((ji39) : Int).toNat * 2, none⟩ = some (.string ((rd_T32 t248 (ji39)).f0)) := hcc69 0 _ rfl
                    have hx69_1 : World.cell? _ ⟨go69, ((ji39) : Int).toNat * 2 + 1, none⟩ = some (.int .i64 ((rd_T32 t248 (ji39)).f1)) := hcc69 1 _ rfl
                    have hf69_0 : World.frozen? _ ⟨go69, ((ji39) : Int).toNat * 2, none⟩ = false := hfr69 0
                    have hf69_1 : World.frozen? _ ⟨go69, ((ji39) : Int).toNat * 2 + 1, none⟩ = false := hfr69 1
                    clear hcl69 hcc69 hfr69 hM69
                    replace p69 := eq_true p69
                    replace q69 := eq_true q69
                    obtain ⟨ce72, hcl72, hM72, hcc72, hfr72⟩ := Kd.R_elem HO_255000.out z32 ((ji39) : Int) (of_decide_eq_true (by first | (with_reducible assumption) | assumption)) (by have h_ : ((ji39) : Int) < ((t248.length : Int) : Int) := of_decide_eq_true (by first | (with_reducible assumption) | assumption); first | exact h_ | (have e_ := (Kd.R_reads' HO_255000.out).1; omega) | simpa using h_)
                    obtain rfl := k32_openM hM72
                    have HP72 := (Kd.R_seg HO_255000.out ((ji39) : Int) (of_decide_eq_true (by first | (with_reducible assumption) | assumption)) (by have h_ : ((ji39) : Int) < ((t248.length : Int) : Int) := of_decide_eq_true (by first | (with_reducible assumption) | assumption); first | exact h_ | (have e_ := (Kd.R_reads' HO_255000.out).1; omega) | simpa using h_) (seg := [.string ((rd_T32 t248 0).f0), .int .i64 ((rd_T32 t248 0).f1)]) (j := 0) hcl72 hcc72 (show 2 ≤ 2 from by decide) (x' := (⟨(rd_T32 t248 0).f0, (rd_T32 t248 0).f1⟩ : S32)) (k32_mkM _ _ _ (⟨(rd_T32 t248 0).f0, (rd_T32 t248 0).f1⟩ : S32) ) (fun _ hk => hk)).1
                    rw [← Ny268.out] at HP72
                    have HQ72 := Aside0.mk HP72
                    clear hcl72 hcc72 hfr72 hM72 HP72
                    have p70 : 0 ≤ (0 : Int) := (by omega)
                    have q70 : (0 : Int) < ((t248.length : Int) : Int) := of_decide_eq_true (by first | (with_reducible assumption) | assumption)
                    have qi70 : (0 < t248.length) = True := eq_true (by omega)
                    obtain ⟨ce70, hcl70, hM70, hcc70, hfr70⟩ := Kd.R_elem HQ72.out z32 (0 : Int) p70 q70
                    obtain rfl := k32_openM hM70
                    have hx70_0 : World.cell? _ ⟨go69, (0 : Int).toNat * 2, none⟩ = some (.string ((rd_T32 y268 0).f0)) := hcc70 0 _ rfl
                    have hx70_1 : World.cell? _ ⟨go69, (0 : Int).toNat * 2 + 1, none⟩ = some (.int .i64 ((rd_T32 y268 0).f1)) := hcc70 1 _ rfl
                    have hf70_0 : World.frozen? _ ⟨go69, (0 : Int).toNat * 2, none⟩ = false := hfr70 0
                    have hf70_1 : World.frozen? _ ⟨go69, (0 : Int).toNat * 2 + 1, none⟩ = false := hfr70 1
                    clear hcl70 hcc70 hfr70 hM70
                    (try rw [show ((0 : Int)).toNat = 0 from rfl] at hx70_0)
                    (try simp only [Nat.reduceMul, Nat.zero_mul, Nat.zero_add, Nat.reduceAdd] at hx70_0)
                    (try rw [show ((0 : Int)).toNat = 0 from rfl] at hf70_0)
                    (try simp only [Nat.reduceMul, Nat.zero_mul, Nat.zero_add, Nat.reduceAdd] at hf70_0)
                    (try rw [show ((0 : Int)).toNat = 0 from rfl] at hx70_1)
                    (try simp only [Nat.reduceMul, Nat.zero_mul, Nat.zero_add, Nat.reduceAdd] at hx70_1)
                    (try rw [show ((0 : Int)).toNat = 0 from rfl] at hf70_1)
                    (try simp only [Nat.reduceMul, Nat.zero_mul, Nat.zero_add, Nat.reduceAdd] at hf70_1)
                    replace p70 := eq_true p70
                    replace q70 := eq_true q70
                    obtain ⟨ce73, hcl73, hM73, hcc73, hfr73⟩ := Kd.R_elem HQ72.out z32 (0 : Int) (by omega) (by have h_ : (0 : Int) < ((t248.length : Int) : Int) := of_decide_eq_true (by first | (with_reducible assumption) | assumption); first | exact h_ | (have e_ := (Kd.R_reads' HO_255000.out).1; omega) | simpa using h_)
                    obtain rfl := k32_openM hM73
                    have HP73 := (Kd.R_seg HQ72.out (0 : Int) (by omega) (by have h_ : (0 : Int) < ((t248.length : Int) : Int) := of_decide_eq_true (by first | (with_reducible assumption) | assumption); first | exact h_ | (have e_ := (Kd.R_reads' HO_255000.out).1; omega) | simpa using h_) (seg := [.string ((rd_T32 t248 (ji39)).f0), .int .i64 ((rd_T32 t248 (ji39)).f1)]) (j := 0) hcl73 hcc73 (show 2 ≤ 2 from by decide) (x' := (⟨(rd_T32 t248 (ji39)).f0, (rd_T32 t248 (ji39)).f1⟩ : S32)) (k32_mkM _ _ _ (⟨(rd_T32 t248 (ji39)).f0, (rd_T32 t248 (ji39)).f1⟩ : S32) ) (fun _ hk => hk)).1
                    rw [← Ny269.out] at HP73
                    have HQ73 := Aside0.mk HP73
                    clear hcl73 hcc73 hfr73 hM73 HP73
                    refine start_ (n := 18) (S := fun w' => w'.cell? ⟨gb254, 0, none⟩ = some (.slice (some ⟨go69, 0, none⟩) t248.length co20) ∧ w'.cell? ⟨gb254, 1, none⟩ = some (.slice Ao23 t251.length co23)) (ds := [17]) #[false, false, false, false, false, false, false, false, false, false, false, false, false, false, false, false, false, false] (by kernel_rfl) rfl rfl ⟨bc BK254 0, bc BK254 1⟩ (fun hHeld => ?_); refine with_tabW damperlaw5_TableRight.tab15 damperlaw5_TableRight.bits15 (fun HT_ HW_ => ?_)
                    generalize wc.drew = w71 at HO_255000 HO_255001 BK245 BK254 HB GG69 HQ72 HQ73 hf69_0 hf69_1 hf70_0 hf70_1 hx266_0 hx266_1 hx267_0 hx267_1 hx69_0 hx69_1 hx70_0 hx70_1 hHeld ⊢
                    refine pure_ (i := 0) (N := some 74) (v := ?_) (a' := ?_) #[true, false, false, false, false, false, false, false, false, false, false, false, false, false, false, false, false, false] rfl rfl (any_of HT_.out (by kernel_rfl)) (fun _ _ _ h => h) (Or.inl ⟨by rfl, ?_⟩) ?_ ?_
                    rotate_left
                    · intro w'
                      go_simp
                      with_reducible rfl
                    rotate_left
                    · simp only [Act.put, List.setIfInBounds_toArray, List.set_cons_zero, List.set_cons_succ, i64_w, i32_w]
                      rfl
                    refine pure_ (i := 2) (N := some 76) (v := ?_) (a' := ?_) #[true, false, true, false, false, false, false, false, false, false, false, false, false, false, false, false, false, false] rfl rfl (any_of HT_.out (by kernel_rfl)) (fun _ _ _ h => h) (Or.inl ⟨by rfl, ?_⟩) ?_ ?_
                    rotate_left
                    · intro w'
                      go_simp
                      with_reducible rfl
                    rotate_left
                    · simp only [Act.put, List.setIfInBounds_toArray, List.set_cons_zero, List.set_cons_succ, i64_w, i32_w]
                      rfl
                    refine pure_ (i := 3) (N := some 77) (v := ?_) (a' := ?_) #[true, false, true, true, false, false, false, false, false, false, false, false, false, false, false, false, false, false] rfl rfl (any_of HT_.out (by kernel_rfl)) (fun _ _ _ h => h) (Or.inl ⟨by rfl, ?_⟩) ?_ ?_
                    rotate_left
                    · intro w'
                      go_simp
                      with_reducible rfl
                    rotate_left
                    · simp only [Act.put, List.setIfInBounds_toArray, List.set_cons_zero, List.set_cons_succ, i64_w, i32_w]
                      rfl
                    refine pure_ (i := 5) (N := some 79) (v := ?_) (a' := ?_) #[true, false, true, true, false, true, false, false, false, false, false, false, false, false, false, false, false, false] rfl rfl (any_of HT_.out (by kernel_rfl)) (fun _ _ _ h => h) (Or.inl ⟨by rfl, ?_⟩) ?_ ?_
                    rotate_left
                    · intro w'
                      go_simp
                      with_reducible rfl
                    rotate_left
                    · simp only [Act.put, List.setIfInBounds_toArray, List.set_cons_zero, List.set_cons_succ, i64_w, i32_w]
                      rfl
                    refine pure_ (i := 9) (N := some 83) (v := ?_) (a' := ?_) #[true, false, true, true, false, true, false, false, false, true, false, false, false, false, false, false, false, false] rfl rfl (any_of HT_.out (by kernel_rfl)) (fun _ _ _ h => h) (Or.inl ⟨by rfl, ?_⟩) ?_ ?_
                    rotate_left
                    · intro w'
                      go_simp
                      with_reducible rfl
                    rotate_left
                    · simp only [Act.put, List.setIfInBounds_toArray, List.set_cons_zero, List.set_cons_succ, i64_w, i32_w]
                      rfl
                    refine pure_ (i := 11) (N := some 85) (v := ?_) (a' := ?_) #[true, false, true, true, false, true, false, false, false, true, false, true, false, false, false, false, false, false] rfl rfl (any_of HT_.out (by kernel_rfl)) (fun _ _ _ h => h) (Or.inl ⟨by rfl, ?_⟩) ?_ ?_
                    rotate_left
                    · intro w'
                      go_simp
                      with_reducible rfl
                    rotate_left
                    · simp only [Act.put, List.setIfInBounds_toArray, List.set_cons_zero, List.set_cons_succ, i64_w, i32_w]
                      rfl
                    refine take_ (i := 1) (N := some 75) (v := ?_) (a' := ?_) #[true, true, true, true, false, true, false, false, false, true, false, true, false, false, false, false, false, false] rfl rfl (take_ofW HT_.out HW_.out (by kernel_rfl)) (fun _ _ _ h => h) (Or.inl ⟨by rfl, ?_⟩) hHeld ?_ ?_
                    rotate_left
                    · rintro w' ⟨s0, s1⟩
                      go_simp
                      with_reducible rfl
                    rotate_left
                    · simp only [Act.put, List.setIfInBounds_toArray, List.set_cons_zero, List.set_cons_succ, i64_w, i32_w]
                      rfl
                    refine take_ (i := 4) (N := some 78) (v := ?_) (a' := ?_) #[true, true, true, true, true, true, false, false, false, true, false, true, false, false, false, false, false, false] rfl rfl (take_ofW HT_.out HW_.out (by kernel_rfl)) (fun _ _ _ h => h) (Or.inl ⟨by rfl, ?_⟩) hHeld ?_ ?_
                    rotate_left
                    · rintro w' ⟨s0, s1⟩
                      go_simp
                      with_reducible rfl
                    rotate_left
                    · simp only [Act.put, List.setIfInBounds_toArray, List.set_cons_zero, List.set_cons_succ, i64_w, i32_w]
                      rfl
                    refine take_ (i := 6) (N := some 80) (v := ?_) (a' := ?_) #[true, true, true, true, true, true, true, false, false, true, false, true, false, false, false, false, false, false] rfl rfl (take_ofW HT_.out HW_.out (by kernel_rfl)) (fun _ _ _ h => h) (Or.inl ⟨by rfl, ?_⟩) hHeld ?_ ?_
                    rotate_left
                    · rintro w' ⟨s0, s1⟩
                      go_simp
                      with_reducible rfl
                    rotate_left
                    · simp only [Act.put, List.setIfInBounds_toArray, List.set_cons_zero, List.set_cons_succ, i64_w, i32_w]
                      rfl
                    refine pure_ (i := 7) (N := some 81) (v := ?_) (a' := ?_) #[true, true, true, true, true, true, true, true, false, true, false, true, false, false, false, false, false, false] rfl rfl (any_of HT_.out (by kernel_rfl)) (fun _ _ _ h => h) (Or.inl ⟨by rfl, ?_⟩) ?_ ?_
                    rotate_left
                    · intro w'
                      go_simp
                      with_reducible rfl
                    rotate_left
                    · simp only [Act.put, List.setIfInBounds_toArray, List.set_cons_zero, List.set_cons_succ, i64_w, i32_w]
                      rfl
                    refine take_ (i := 10) (N := some 84) (v := ?_) (a' := ?_) #[true, true, true, true, true, true, true, true, false, true, true, true, false, false, false, false, false, false] rfl rfl (take_ofW HT_.out HW_.out (by kernel_rfl)) (fun _ _ _ h => h) (Or.inl ⟨by rfl, ?_⟩) hHeld ?_ ?_
                    rotate_left
                    · rintro w' ⟨s0, s1⟩
                      go_simp
                      with_reducible rfl
                    rotate_left
                    · simp only [Act.put, List.setIfInBounds_toArray, List.set_cons_zero, List.set_cons_succ, i64_w, i32_w]
                      rfl
                    refine pure_ (i := 12) (N := some 86) (v := ?_) (a' := ?_) #[true, true, true, true, true, true, true, true, false, true, true, true, true, false, false, false, false, false] rfl rfl (any_of HT_.out (by kernel_rfl)) (fun _ _ _ h => h) (Or.inl ⟨by rfl, ?_⟩) ?_ ?_
                    rotate_left
                    · intro w'
                      go_simp
                      with_reducible rfl
                    rotate_left
                    · simp only [Act.put, List.setIfInBounds_toArray, List.set_cons_zero, List.set_cons_succ, i64_w, i32_w]
                      rfl
                    refine join_ (σ := Unit) 4 #[true, true, true, true, true, true, true, true, true, true, true, true, true, true, false, false, false, false] (fun _ => [(82, .agg #[.string ((rd_T32 t248 0).f0), .int .i64 ((rd_T32 t248 0).f1)]), (87, .agg #[.string ((rd_T32 t248 (ji39)).f0), .int .i64 ((rd_T32 t248 (ji39)).f1)])]) (fun _ w' => w71 = w') ?_ ?_
                    rotate_left
                    · intro hCont
                      refine two_ (i := 8) (j := 13) (Ni := some 82) (Nj := some 87) #[true, true, true, true, true, true, true, true, true, true, true, true, true, false, false, false, false, false] #[true, true, true, true, true, true, true, true, false, true, true, true, true, true, false, false, false, false] rfl rfl rfl rfl (two_of HT_.out (by kernel_rfl)) (by decide) (by decide) (fun K hK => ?_) (fun K hK => ?_)
                      · skip
                        with_reducible_and_instances refine value_ (w1 := ?_) (v := ?_) ?hw_ ?hN_ ?_ ?_
                        (case hw_ => rfl)
                        (case hN_ => rfl)
                        rotate_left 2
                        · go_simp
                          constructor
                          · rfl
                          · rfl
                        refine hK.out _ _ ⟨hHeld.1, hHeld.2⟩ (fun hHeld => ?_)
                        clear hK K
                        refine norm_ (a' := ?_) ?_ ?_
                        rotate_left
                        · show Act.put _ (some 82) _ = _
                          simp only [Act.put, List.setIfInBounds_toArray, List.set_cons_zero, List.set_cons_succ, i64_w, i32_w]
                          rfl
                        refine one_ (i := 13) (N := some 87) #[true, true, true, true, true, true, true, true, true, true, true, true, true, true, false, false, false, false] rfl rfl (one_of HT_.out (by kernel_rfl)) (by decide) (fun K hK => ?_)
                        with_reducible_and_instances refine value_ (w1 := ?_) (v := ?_) ?hw_ ?hN_ ?_ ?_
                        (case hw_ => rfl)
                        (case hN_ => rfl)
                        rotate_left 2
                        · go_simp
                          constructor
                          · rfl
                          · rfl
                        refine hK.out _ _ ⟨hHeld.1, hHeld.2⟩ (fun hHeld => ?_)
                        clear hK K
                        refine norm_ (a' := ?_) ?_ ?_
                        rotate_left
                        · show Act.put _ (some 87) _ = _
                          simp only [Act.put, List.setIfInBounds_toArray, List.set_cons_zero, List.set_cons_succ, i64_w, i32_w]
                          rfl
                        exact norm_ (by simp only [putAll, Act.put, List.setIfInBounds_toArray, List.set_cons_zero, List.set_cons_succ]) (hCont () _ rfl)
                      · skip
                        with_reducible_and_instances refine value_ (w1 := ?_) (v := ?_) ?hw_ ?hN_ ?_ ?_
                        (case hw_ => rfl)
                        (case hN_ => rfl)
                        rotate_left 2
                        · go_simp
                          constructor
                          · rfl
                          · rfl
                        refine hK.out _ _ ⟨hHeld.1, hHeld.2⟩ (fun hHeld => ?_)
                        clear hK K
                        refine norm_ (a' := ?_) ?_ ?_
                        rotate_left
                        · show Act.put _ (some 87) _ = _
                          simp only [Act.put, List.setIfInBounds_toArray, List.set_cons_zero, List.set_cons_succ, i64_w, i32_w]
                          rfl
                        refine one_ (i := 8) (N := some 82) #[true, true, true, true, true, true, true, true, true, true, true, true, true, true, false, false, false, false] rfl rfl (one_of HT_.out (by kernel_rfl)) (by decide) (fun K hK => ?_)
                        with_reducible_and_instances refine value_ (w1 := ?_) (v := ?_) ?hw_ ?hN_ ?_ ?_
                        (case hw_ => rfl)
                        (case hN_ => rfl)
                        rotate_left 2
                        · go_simp
                          constructor
                          · rfl
                          · rfl
                        refine hK.out _ _ ⟨hHeld.1, hHeld.2⟩ (fun hHeld => ?_)
                        clear hK K
                        refine norm_ (a' := ?_) ?_ ?_
                        rotate_left
                        · show Act.put _ (some 82) _ = _
                          simp only [Act.put, List.setIfInBounds_toArray, List.set_cons_zero, List.set_cons_succ, i64_w, i32_w]
                          rfl
                        exact norm_ (by simp only [putAll, Act.put, List.setIfInBounds_toArray, List.set_cons_zero, List.set_cons_succ]) (hCont () _ rfl)
                    rintro _ w_ rfl
                    refine norm_ (a' := ?_) ?_ ?_
                    rotate_left
                    · simp only [putAll, Act.put, List.setIfInBounds_toArray, List.set_cons_zero, List.set_cons_succ]
                      rfl
                    refine pure_ (i := 14) (N := some 88) (v := ?_) (a' := ?_) #[true, true, true, true, true, true, true, true, true, true, true, true, true, true, true, false, false, false] rfl rfl (any_of HT_.out (by kernel_rfl)) (fun _ _ _ h => h) (Or.inl ⟨by rfl, ?_⟩) ?_ ?_
                    rotate_left
                    · intro w'
                      go_simp
                      with_reducible rfl
                    rotate_left
                    · simp only [Act.put, List.setIfInBounds_toArray, List.set_cons_zero, List.set_cons_succ, i64_w, i32_w]
                      rfl
                    refine one_ (i := 15) (N := none) #[true, true, true, true, true, true, true, true, true, true, true, true, true, true, true, true, false, false] rfl rfl (one_of HT_.out (by kernel_rfl)) (by decide) (fun K hK => ?_)
                    with_reducible_and_instances refine skip_ (w1 := ?_) ?hw_ ?hN_ ?_ ?_
                    (case hw_ => rfl)
                    (case hN_ => rfl)
                    rotate_left
                    · go_simp
                      rfl
                    refine hK.out _ _ ⟨(swp_far (p := ⟨go69, ((ji39)).toNat * 2, none⟩) (q := ⟨go69, ((ji39)).toNat * 2 + 1, none⟩) (by have h_ := Kd.R_ne HO_255000.out BK254.out (by decide); simpa [Value.ownBlock] using h_) (by have h_ := Kd.R_ne HO_255000.out BK254.out (by decide); simpa [Value.ownBlock] using h_) hHeld.1), (swp_far (p := ⟨go69, ((ji39)).toNat * 2, none⟩) (q := ⟨go69, ((ji39)).toNat * 2 + 1, none⟩) (by have h_ := Kd.R_ne HO_255000.out BK254.out (by decide); simpa [Value.ownBlock] using h_) (by have h_ := Kd.R_ne HO_255000.out BK254.out (by decide); simpa [Value.ownBlock] using h_) hHeld.2)⟩ (fun hHeld => ?_)
                    clear hK K
                    refine pure_ (i := 16) (N := some 89) (v := ?_) (a' := ?_) #[true, true, true, true, true, true, true, true, true, true, true, true, true, true, true, true, true, false] rfl rfl (any_of HT_.out (by kernel_rfl)) (fun _ _ _ h => h) (Or.inl ⟨by rfl, ?_⟩) ?_ ?_
                    rotate_left
                    · intro w'
                      go_simp
                      with_reducible rfl
                    rotate_left
                    · simp only [Act.put, List.setIfInBounds_toArray, List.set_cons_zero, List.set_cons_succ, i64_w, i32_w]
                      rfl
                    refine last_ (i := 17) (N := none) #[true, true, true, true, true, true, true, true, true, true, true, true, true, true, true, true, true, true] rfl rfl (one_of HT_.out (by kernel_rfl)) (by decide) (fun K hK => ?_)
                    obtain ⟨z0_, g0_⟩ := swp_some (W := w71) (p := ⟨go69, ((ji39)).toNat * 2, none⟩) (q := ⟨go69, 0, none⟩) (u := .string ((rd_T32 t248 0).f0)) (by assumption) (by assumption)
                    obtain ⟨z1_, g1_⟩ := swp_some (W := w71) (p := ⟨go69, ((ji39)).toNat * 2, none⟩) (q := ⟨go69, 1, none⟩) (u := .string ((rd_T32 t248 0).f0)) (by assumption) (by assumption)
                    obtain ⟨z2_, g2_⟩ := swp_some (W := w71) (p := ⟨go69, ((ji39)).toNat * 2, none⟩) (q := ⟨go69, ((ji39)).toNat * 2 + 1, none⟩) (u := .string ((rd_T32 t248 0).f0)) (by assumption) (by assumption)
                    obtain ⟨z3_, g3_⟩ := swp_some (W := World.setCell w71 ⟨go69, ((ji39)).toNat * 2, none⟩ (.string ((rd_T32 t248 0).f0))) (p := ⟨go69, ((ji39)).toNat * 2 + 1, none⟩) (q := ⟨go69, 1, none⟩) (u := .int .i64 ((rd_T32 t248 0).f1)) g2_ g1_
                    have f0_ := blk_frozen GG69.out 0
                    have f1_ := blk_frozen GG69.out 1
                    with_reducible_and_instances refine skip_ (w1 := ?_) ?hw_ ?hN_ ?_ ?_
                    (case hw_ => rfl)
                    (case hN_ => rfl)
                    rotate_left
                    · go_simp
                      rfl
                    refine hK.out _ _ ?_
                    clear hK K
                    refine done_ (done_of HT_.out (by kernel_rfl)) ?_
                    try go_wp2_with (first | (go_at_call 14; refine (damperlaw5_within.keep _ _ rfl (by first | decide | assumption | exact wi_ne (by assumption) | exact wi_ne' (by assumption) | omega) _).mono ?_; rintro e w' ⟨rfl, rfl⟩))
                    go_meet
                    case rel => exact ⟨_, (y269), (t251), (.slice (some ⟨go69, 0, none⟩) t248.length co20), (.slice Ao23 t251.length co23), H', ⟨by have := HJ12.out; first | omega | exact Nat.le_refl _⟩, ⟨by (with_reducible repeat (first | apply Kd.R_alloc | apply Kd.R_drewN | apply Kd.R_drew)); exact HQ73.out⟩, ⟨by (with_reducible repeat (first | apply Kd.R_alloc | apply Kd.R_drewN | apply Kd.R_drew)); exact Kd.R_mono (Kd.R_far (p := ⟨go69, 1, none⟩) (Kd.R_far (p := ⟨go69, 0, none⟩) (Kd.R_far (p := ⟨go69, ((ji39) : Int).toNat * 2 + 1, none⟩) (Kd.R_far (p := ⟨go69, ((ji39) : Int).toNat * 2, none⟩) (Kd.R_types HO_255001.out GG69.out (by decide)) (fun _ hk => hk.2) (.string ((rd_T32 t248 0).f0))) (fun _ hk => hk.2) (.int .i64 ((rd_T32 t248 0).f1))) (fun _ hk => hk.2) (.string ((rd_T32 t248 (ji39)).f0))) (fun _ hk => hk.2) (.int .i64 ((rd_T32 t248 (ji39)).f1))) (fun _ hk => trivial)⟩, ⟨by (with_reducible repeat (first | refine blk_drewN ?_ _ | refine blk_drew ?_ | refine blk_alloc ?_ _)); refine blk_far ?_ (by have h_ := Kd.R_ne HO_255000.out BK245.out (by decide); intro e_; exact h_ (by rw [e_]; rfl)) _; (with_reducible repeat (first | refine blk_drewN ?_ _ | refine blk_drew ?_ | refine blk_alloc ?_ _)); refine blk_far ?_ (by have h_ := Kd.R_ne HO_255000.out BK245.out (by decide); intro e_; exact h_ (by rw [e_]; rfl)) _; (with_reducible repeat (first | refine blk_drewN ?_ _ | refine blk_drew ?_ | refine blk_alloc ?_ _)); refine blk_far ?_ (by have h_ := Kd.R_ne HO_255000.out BK245.out (by decide); intro e_; exact h_ (by rw [e_]; rfl)) _; (with_reducible repeat (first | refine blk_drewN ?_ _ | refine blk_drew ?_ | refine blk_alloc ?_ _)); refine blk_far ?_ (by have h_ := Kd.R_ne HO_255000.out BK245.out (by decide); intro e_; exact h_ (by rw [e_]; rfl)) _; (with_reducible repeat (first | refine blk_drewN ?_ _ | refine blk_drew ?_ | refine blk_alloc ?_ _)); exact BK245.out⟩, ⟨by (with_reducible repeat (first | refine blk_drewN ?_ _ | refine blk_drew ?_ | refine blk_alloc ?_ _)); refine blk_far ?_ (by have h_ := Kd.R_ne HO_255000.out BK254.out (by decide); intro e_; exact h_ (by rw [e_]; rfl)) _; (with_reducible repeat (first | refine blk_drewN ?_ _ | refine blk_drew ?_ | refine blk_alloc ?_ _)); refine blk_far ?_ (by have h_ := Kd.R_ne HO_255000.out BK254.out (by decide); intro e_; exact h_ (by rw [e_]; rfl)) _; (with_reducible repeat (first | refine blk_drewN ?_ _ | refine blk_drew ?_ | refine blk_alloc ?_ _)); refine blk_far ?_ (by have h_ := Kd.R_ne HO_255000.out BK254.out (by decide); intro e_; exact h_ (by rw [e_]; rfl)) _; (with_reducible repeat (first | refine blk_drewN ?_ _ | refine blk_drew ?_ | refine blk_alloc ?_ _)); refine blk_far ?_ (by have h_ := Kd.R_ne HO_255000.out BK254.out (by decide); intro e_; exact h_ (by rw [e_]; rfl)) _; (with_reducible repeat (first | refine blk_drewN ?_ _ | refine blk_drew ?_ | refine blk_alloc ?_ _)); exact BK254.out⟩, ⟨by repeat (first | (with_reducible first | exact HB.out | apply below_alloc | apply pw_below_drewN | apply below_drew1 | refine below_set ?_ GB69.out | refine below_set ?_ GB69.out | refine below_set ?_ GB69.out | refine below_set ?_ GB69.out | refine below_set ?_ GE245.out | refine below_set ?_ GE254.out) | exact HB.out)⟩⟩
                  · rw [if_neg c65] at H
                    have c65b0 : ((ji40) == 2) = false := beq_eq_false_iff_ne.mpr c65
                    have c65b1 : ((ji40) != 2) = true := bne_iff_ne.mpr c65
                    by_cases c74 : (ji40) = 3
                    · rw [if_pos c74] at H
                      have c74b0 : ((ji40) == 3) = true := beq_iff_eq.mpr c74
                      have c74b1 : ((ji40) != 3) = false := bne_eq_false_iff_eq.mpr c74
                      clear c74
                      by_cases c75 : t248.length < 5864062014805
                      rotate_left
                      · rw [if_neg c75] at H
                        exact absurd H (by simp)
                      rw [if_pos c75] at H
                      have LMc75 := Aside0.mk c75
                      clear c75
                      obtain ⟨y270, hy270⟩ : ∃ y_ : List (S32), y_ = (t248 ++ [(⟨(⟨#[119, 101, 98, 45, 57]⟩ : ByteArray), 0⟩ : S32)]) := ⟨_, rfl⟩
                      replace H : (damperlaw5_TableRight.j1 kj12 y270 t251) = some r := by first | (rw [hy270]; with_reducible exact H) | (have H2_ := (Option.bind_some _ _).symm.trans H; rw [hy270]; with_reducible exact H2_) | (have H2_ := (Option.bind_some _ _).symm.trans H; with_reducible exact H2_) | with_reducible exact H | (rw [hy270]; exact H) | exact H
                      have Ny270 := Aside0.mk hy270
                      clear hy270
                      have H' := Aside0.mk H
                      clear H
                      have hnb76 := NB254_245.out
                      have hnc76 := NB245_254.out
                      have hcz77_0 : wc.cell? ⟨gb254, 0, none⟩ = some (.slice Ao20 t248.length co20) := bc BK254 0
                      have hcz77_1 : wc.cell? ⟨gb254, 1, none⟩ = some (.slice Ao23 t251.length co23) := bc BK254 1
                      have hfz77_0 := blk_frozen BK254.out 0
                      have hfz77_1 := blk_frozen BK254.out 1
                      go_wp2_with (first | (go_at_call 14; refine (damperlaw5_within.keep _ _ rfl (by first | decide | assumption | exact wi_ne (by assumption) | exact wi_ne' (by assumption) | omega) _).mono ?_; rintro e w' ⟨rfl, rfl⟩) | ((with_reducible refine gate_builtin (b := .append) (xs := #[.tmp 93, .tmp 95]) rfl ?_); at_builtin; refine Kd.R_append k32 (w0 := w) w.heap.size rfl (.tmp 93) (.tmp 95) 22 32 (.agg #[(.string ⟨#[]⟩), (.int .i64 0)]) 24 rfl Tryd.underlying22 info32 rfl (by decide) (by omega) (.slice Ao20 t248.length co20) t248 (⟨(⟨#[119, 101, 98, 45, 57]⟩ : ByteArray), 0⟩ : S32) [.string (⟨#[119, 101, 98, 45, 57]⟩ : ByteArray), .int .i64 0] (fun _ => True) (fun _ => False) rfl rfl ?aP (fun _ hk => hk.elim) ?aF ?aO ?aB ?aS ?aL ?_; (case aP => exact k32_mkM _ _ _ (⟨(⟨#[119, 101, 98, 45, 57]⟩ : ByteArray), 0⟩ : S32)); (case aB => exact (by repeat (first | (with_reducible first | exact HB.out | apply below_alloc | apply pw_below_drewN | apply below_drew1 | refine below_set ?_ GE245.out | refine below_set ?_ GE254.out) | exact HB.out))); (case aF => exact (fun _ _ => trivial)); (case aO => exact (by (with_reducible repeat (first | apply Kd.R_alloc | apply Kd.R_drewN | apply Kd.R_drew)); exact HO_255000.out)); (case aS => exact (below_size (by repeat (first | (with_reducible first | exact HB.out | apply below_alloc | apply pw_below_drewN | apply below_drew1 | refine below_set ?_ GE245.out | refine below_set ?_ GE254.out) | exact HB.out)))); (case aL => have := LMc75.out; omega); intro v271 w78 ho hb hg hat; rw [← Ny270.out] at ho; have n0_ := Aside0.mk (Kd.R_over' (by (with_reducible repeat (first | apply Kd.R_alloc | apply Kd.R_drewN | apply Kd.R_drew)); exact HO_255001.out) (Kd.R_typed (by (with_reducible repeat (first | apply Kd.R_alloc | apply Kd.R_drewN | apply Kd.R_drew)); exact HO_255000.out)) (by decide) hg); have n1_ := Aside0.mk (blk_grown (g := gb245) (pk BK245) hg (Kd.R_ne HO_255000.out BK245.out (by decide))); have n2_ := Aside0.mk (blk_grown (g := gb254) (pk BK254) hg (Kd.R_ne HO_255000.out BK254.out (by decide))); have n3_ := Aside0.mk (hb); have n4_ := Aside0.mk (ho); clear HO_255001; clear BK245; clear BK254; clear HB; clear HO_255000; have HO_255001 := n0_; have BK245 := n1_; have BK254 := n2_; have HB := n3_; have HO272 := n4_; clear n0_ n1_ n2_ n3_ n4_; clear ho hb hg hat; obtain ⟨Ao79, co79, eo79⟩ := Kd.R_slice HO272.out; subst eo79; have hcz80_0 : w78.cell? ⟨gb254, 0, none⟩ = some (.slice Ao20 t248.length co20) := bc BK254 0; have hcz80_1 : w78.cell? ⟨gb254, 1, none⟩ = some (.slice Ao23 t251.length co23) := bc BK254 1; have hfz80_0 := blk_frozen BK254.out 0; have hfz80_1 := blk_frozen BK254.out 1))
                      go_meet
                      case rel => exact ⟨_, (y270), (t251), (.slice Ao79 y270.length co79), (.slice Ao23 t251.length co23), H', ⟨by have := HJ12.out; first | omega | exact Nat.le_refl _⟩, ⟨by (with_reducible repeat (first | apply Kd.R_alloc | apply Kd.R_drewN | apply Kd.R_drew)); exact Kd.R_mono (Kd.R_far (p := ⟨gb254, 0, none⟩) (Kd.R_types HO272.out BK254.out (by decide)) (fun _ hk => hk.2) (.slice Ao79 y270.length co79)) (fun _ hk => trivial)⟩, ⟨by (with_reducible repeat (first | apply Kd.R_alloc | apply Kd.R_drewN | apply Kd.R_drew)); exact Kd.R_mono (Kd.R_far (p := ⟨gb254, 0, none⟩) (Kd.R_types HO_255001.out BK254.out (by decide)) (fun _ hk => hk.2) (.slice Ao79 y270.length co79)) (fun _ hk => trivial)⟩, ⟨by (with_reducible repeat (first | refine blk_drewN ?_ _ | refine blk_drew ?_ | refine blk_alloc ?_ _)); refine blk_far ?_ NB245_254.out _; (with_reducible repeat (first | refine blk_drewN ?_ _ | refine blk_drew ?_ | refine blk_alloc ?_ _)); exact BK245.out⟩, ⟨by (with_reducible repeat (first | refine blk_drewN ?_ _ | refine blk_drew ?_ | refine blk_alloc ?_ _)); refine blk_put (cs := #[.slice Ao20 t248.length co20, .slice Ao23 t251.length co23]) ?_ 0 _ rfl; (with_reducible repeat (first | refine blk_drewN ?_ _ | refine blk_drew ?_ | refine blk_alloc ?_ _)); exact BK254.out⟩, ⟨by repeat (first | (with_reducible first | exact HB.out | apply below_alloc | apply pw_below_drewN | apply below_drew1 | refine below_set ?_ GE245.out | refine below_set ?_ GE254.out) | exact HB.out)⟩⟩
                    · rw [if_neg c74] at H
                      have c74b0 : ((ji40) == 3) = false := beq_eq_false_iff_ne.mpr c74
                      have c74b1 : ((ji40) != 3) = true := bne_iff_ne.mpr c74
                      by_cases c81 : (ji40) = 4
                      · rw [if_pos c81] at H
                        have c81b0 : ((ji40) == 4) = true := beq_iff_eq.mpr c81
                        have c81b1 : ((ji40) != 4) = false := bne_eq_false_iff_eq.mpr c81
                        clear c81
                        replace H := Option.bind_eq_some_iff.mp H
                        obtain ⟨t273, A820, H⟩ := H
                        replace H : (if t251.length < 4398046511104 then (damperlaw5_TableRight.j1 kj12 t248 (t251 ++ [(⟨t273, (⟨#[119, 101, 98, 45, 49]⟩ : ByteArray)⟩ : S35)])) else (none)) = some r := H
                        have A82 := Aside0.mk A820
                        clear A820
                        by_cases c83 : t251.length < 4398046511104
                        rotate_left
                        · rw [if_neg c83] at H
                          exact absurd H (by simp)
                        rw [if_pos c83] at H
                        have LMc83 := Aside0.mk c83
                        clear c83
                        obtain ⟨y274, hy274⟩ : ∃ y_ : List (S35), y_ = (t251 ++ [(⟨t273, (⟨#[119, 101, 98, 45, 49]⟩ : ByteArray)⟩ : S35)]) := ⟨_, rfl⟩
                        replace H : (damperlaw5_TableRight.j1 kj12 t248 y274) = some r := by first | (rw [hy274]; with_reducible exact H) | (have H2_ := (Option.bind_some _ _).symm.trans H; rw [hy274]; with_reducible exact H2_) | (have H2_ := (Option.bind_some _ _).symm.trans H; with_reducible exact H2_) | with_reducible exact H | (rw [hy274]; exact H) | exact H
                        have Ny274 := Aside0.mk hy274
                        clear hy274
                        have H' := Aside0.mk H
                        clear H
                        try go_wp2_with (first | (go_at_call 14; refine (damperlaw5_within.keep _ _ rfl (by first | decide | assumption | exact wi_ne (by assumption) | exact wi_ne' (by assumption) | omega) _).mono ?_; rintro e w' ⟨rfl, rfl⟩))
                        replace HO_255000 := Aside0.mk (Kd.R_drew HO_255000.out)
                        replace HO_255001 := Aside0.mk (Kd.R_drew HO_255001.out)
                        replace BK245 := Aside0.mk (blk_drew BK245.out)
                        replace BK254 := Aside0.mk (blk_drew BK254.out)
                        replace HB := Aside0.mk (below_drew1 HB.out)
                        refine start_ (n := 9) (S := fun w' => w'.cell? ⟨gb254, 0, none⟩ = some (.slice Ao20 t248.length co20) ∧ w'.cell? ⟨gb254, 1, none⟩ = some (.slice Ao23 t251.length co23)) (ds := [8]) #[false, false, false, false, false, false, false, false, false] (by kernel_rfl) rfl rfl ⟨bc BK254 0, bc BK254 1⟩ (fun hHeld => ?_); refine with_tabW damperlaw5_TableRight.tab19 damperlaw5_TableRight.bits19 (fun HT_ HW_ => ?_)
                        generalize wc.drew = w84 at HO_255000 HO_255001 BK245 BK254 HB hHeld ⊢
                        refine pure_ (i := 0) (N := some 100) (v := ?_) (a' := ?_) #[true, false, false, false, false, false, false, false, false] rfl rfl (any_of HT_.out (by kernel_rfl)) (fun _ _ _ h => h) (Or.inl ⟨by rfl, ?_⟩) ?_ ?_
                        rotate_left
                        · intro w'
                          go_simp
                          with_reducible rfl
                        rotate_left
                        · simp only [Act.put, List.setIfInBounds_toArray, List.set_cons_zero, List.set_cons_succ, i64_w, i32_w]
                          rfl
                        refine pure_ (i := 2) (N := some 102) (v := ?_) (a' := ?_) #[true, false, true, false, false, false, false, false, false] rfl rfl (any_of HT_.out (by kernel_rfl)) (fun _ _ _ h => h) (Or.inl ⟨by rfl, ?_⟩) ?_ ?_
                        rotate_left
                        · intro w'
                          go_simp
                          with_reducible rfl
                        rotate_left
                        · simp only [Act.put, List.setIfInBounds_toArray, List.set_cons_zero, List.set_cons_succ, i64_w, i32_w]
                          rfl
                        refine take_ (i := 1) (N := some 101) (v := ?_) (a' := ?_) #[true, true, true, false, false, false, false, false, false] rfl rfl (take_ofW HT_.out HW_.out (by kernel_rfl)) (fun _ _ _ h => h) (Or.inl ⟨by rfl, ?_⟩) hHeld ?_ ?_
                        rotate_left
                        · rintro w' ⟨s0, s1⟩
                          go_simp
                          with_reducible rfl
                        rotate_left
                        · simp only [Act.put, List.setIfInBounds_toArray, List.set_cons_zero, List.set_cons_succ, i64_w, i32_w]
                          rfl
                        refine one_ (i := 3) (N := some 103) #[true, true, true, true, false, false, false, false, false] rfl rfl (one_of HT_.out (by kernel_rfl)) (by decide) (fun K hK => ?_)
                        refine goes_ Tryd.func15 (by kernel_rfl) rfl #[.slice A6 l6.length c6] (by rfl) rfl rfl (by (try simp only [List.map_toArray, List.map_cons, List.map_nil]); first | done | rfl | (simp only [List.length_drop, List.length_take]; rfl)) ?_
                        with_reducible refine (damperlaw1_Text.calls kj12 _ _ l6 t273 _ ?side1 ?side2 A82.out).mono ?_
                        (case side1 => repeat (first | exact (Kd.C_below HR6.out HB.out) | (with_reducible refine Kd.C_alloc ?_ _) | (with_reducible refine Kd.C_drewN ?_ _) | (with_reducible refine Kd.C_drew ?_)))
                        (case side2 => exact HC6.out)
                        rintro e w85 ⟨rfl, hb⟩
                        refine ⟨_, rfl, ?_⟩
                        replace HO_255000 := Aside0.mk (Kd.R_below (by (with_reducible repeat (first | apply Kd.R_alloc | apply Kd.R_drewN | apply Kd.R_drew)); exact HO_255000.out) hb)
                        replace HO_255001 := Aside0.mk (Kd.R_below (by (with_reducible repeat (first | apply Kd.R_alloc | apply Kd.R_drewN | apply Kd.R_drew)); exact HO_255001.out) hb)
                        replace BK245 := Aside0.mk (blk_below (g := gb245) (pk BK245) hb)
                        replace BK254 := Aside0.mk (blk_below (g := gb254) (pk BK254) hb)
                        replace HB := Aside0.mk (below_step (by repeat (first | (with_reducible first | exact HB.out | apply below_alloc | apply pw_below_drewN | apply below_drew1 | refine below_set ?_ GE245.out | refine below_set ?_ GE254.out) | exact HB.out)) hb)
                        (try clear hb)
                        (try clear hb2)
                        (try clear hk)
                        (try clear hi)
                        refine hK.out _ _ ⟨bc BK254 0, bc BK254 1⟩ (fun hHeld => ?_)
                        clear hK K
                        refine norm_ (a' := ?_) ?_ ?_
                        rotate_left
                        · show Act.put _ (some 103) _ = _
                          simp only [Act.put, List.setIfInBounds_toArray, List.set_cons_zero, List.set_cons_succ, i64_w, i32_w]
                          rfl
                        refine pure_ (i := 4) (N := some 104) (v := ?_) (a' := ?_) #[true, true, true, true, true, false, false, false, false] rfl rfl (any_of HT_.out (by kernel_rfl)) (fun _ _ _ h => h) (Or.inl ⟨by rfl, ?_⟩) ?_ ?_
                        rotate_left
                        · intro w'
                          go_simp
                          with_reducible rfl
                        rotate_left
                        · simp only [Act.put, List.setIfInBounds_toArray, List.set_cons_zero, List.set_cons_succ, i64_w, i32_w]
                          rfl
                        refine one_ (i := 5) (N := some 105) #[true, true, true, true, true, true, false, false, false] rfl rfl (one_of HT_.out (by kernel_rfl)) (by decide) (fun K hK => ?_)
                        with_reducible_and_instances refine value_ (w1 := ?_) (v := ?_) ?hw_ ?hN_ ?_ ?_
                        (case hw_ => rfl)
                        (case hN_ => rfl)
                        rotate_left 2
                        · go_simp
                          constructor
                          · rfl
                          · rfl
                        refine hK.out _ _ ⟨(blk_cell (blk_alloc BK254.out _) 0).trans rfl, (blk_cell (blk_alloc BK254.out _) 1).trans rfl⟩ (fun hHeld => ?_)
                        clear hK K
                        refine norm_ (a' := ?_) ?_ ?_
                        rotate_left
                        · show Act.put _ (some 105) _ = _
                          simp only [Act.put, List.setIfInBounds_toArray, List.set_cons_zero, List.set_cons_succ, i64_w, i32_w]
                          rfl
                        refine one_ (i := 6) (N := some 106) #[true, true, true, true, true, true, true, false, false] rfl rfl (one_of HT_.out (by kernel_rfl)) (by decide) (fun K hK => ?_)
                        refine Kd.R_append_step k35 (w0 := w) w.heap.size (by rfl) (.tmp 101) (.tmp 105) 23 35 (.agg #[(.string ⟨#[]⟩), (.string ⟨#[]⟩)]) 32 rfl Tryd.underlying23 info35 rfl (by decide) (by omega) (.slice Ao23 t251.length co23) t251 (⟨t273, (⟨#[119, 101, 98, 45, 49]⟩ : ByteArray)⟩ : S35) [.string t273, .string (⟨#[119, 101, 98, 45, 49]⟩ : ByteArray)] (fun _ => True) (fun _ => False) rfl rfl ?aP (fun _ hk => hk.elim) ?aF ?aO ?aB ?aS ?aL ?_
                        (case aP => exact k35_mkM _ _ _ (⟨t273, (⟨#[119, 101, 98, 45, 49]⟩ : ByteArray)⟩ : S35))
                        (case aB => exact (by repeat (first | (with_reducible first | exact HB.out | apply below_alloc | apply pw_below_drewN | apply below_drew1 | refine below_set ?_ GE245.out | refine below_set ?_ GE254.out) | exact HB.out)))
                        (case aF => exact (fun _ _ => trivial))
                        (case aO => exact (by (with_reducible repeat (first | apply Kd.R_alloc | apply Kd.R_drewN | apply Kd.R_drew)); exact HO_255001.out))
                        (case aS => exact (below_size (by repeat (first | (with_reducible first | exact HB.out | apply below_alloc | apply pw_below_drewN | apply below_drew1 | refine below_set ?_ GE245.out | refine below_set ?_ GE254.out) | exact HB.out))))
                        (case aL => have := LMc83.out; omega)
                        intro v275 w86 ho hb hg hat
                        rw [← Ny274.out] at ho
                        have HO276 := Aside0.mk (ho)
                        replace HO_255000 := Aside0.mk (Kd.R_over' (by (with_reducible repeat (first | apply Kd.R_alloc | apply Kd.R_drewN | apply Kd.R_drew)); exact HO_255000.out) (Kd.R_typed (by (with_reducible repeat (first | apply Kd.R_alloc | apply Kd.R_drewN | apply Kd.R_drew)); exact HO_255001.out)) (by decide) hg)
                        replace BK245 := Aside0.mk (blk_grown (g := gb245) (pk BK245) hg (Kd.R_ne HO_255001.out BK245.out (by decide)))
                        replace BK254 := Aside0.mk (blk_grown (g := gb254) (pk BK254) hg (Kd.R_ne HO_255001.out BK254.out (by decide)))
                        replace HB := Aside0.mk (hb)
                        clear HO_255001
                        clear ho hb hg hat
                        obtain ⟨Ao87, co87, eo87⟩ := Kd.R_slice HO276.out
                        (first | subst eo87 | (injection eo87 with f1_ f2_ f3_; have f4_ := f1_.symm; have f5_ := f3_.symm; clear f1_ f2_ f3_; subst f4_; subst f5_))
                        refine hK.out _ _ ⟨bc BK254 0, bc BK254 1⟩ (fun hHeld => ?_)
                        clear hK K
                        refine norm_ (a' := ?_) ?_ ?_
                        rotate_left
                        · show Act.put _ (some 106) _ = _
                          simp only [Act.put, List.setIfInBounds_toArray, List.set_cons_zero, List.set_cons_succ, i64_w, i32_w]
                          rfl
                        refine pure_ (i := 7) (N := some 107) (v := ?_) (a' := ?_) #[true, true, true, true, true, true, true, true, false] rfl rfl (any_of HT_.out (by kernel_rfl)) (fun _ _ _ h => h) (Or.inl ⟨by rfl, ?_⟩) ?_ ?_
                        rotate_left
                        · intro w'
                          go_simp
                          with_reducible rfl
                        rotate_left
                        · simp only [Act.put, List.setIfInBounds_toArray, List.set_cons_zero, List.set_cons_succ, i64_w, i32_w]
                          rfl
                        refine last_ (i := 8) (N := none) #[true, true, true, true, true, true, true, true, true] rfl rfl (one_of HT_.out (by kernel_rfl)) (by decide) (fun K hK => ?_)
                        have hs88 : w86.cell? ⟨gb254, 1, none⟩ = some (.slice Ao23 t251.length co23) := bc BK254 1
                        have hfs88 := blk_frozen BK254.out 1
                        have hns88_0 := NB245_254.out
                        have hms88_0 := NB254_245.out
                        with_reducible_and_instances refine skip_ (w1 := ?_) ?hw_ ?hN_ ?_ ?_
                        (case hw_ => rfl)
                        (case hN_ => rfl)
                        rotate_left
                        · go_simp
                          rfl
                        refine hK.out _ _ ?_
                        clear hK K
                        refine done_ (done_of HT_.out (by kernel_rfl)) ?_
                        try go_wp2_with (first | (go_at_call 14; refine (damperlaw5_within.keep _ _ rfl (by first | decide | assumption | exact wi_ne (by assumption) | exact wi_ne' (by assumption) | omega) _).mono ?_; rintro e w' ⟨rfl, rfl⟩))
                        go_meet
                        case rel => exact ⟨_, (t248), (y274), (.slice Ao20 t248.length co20), (.slice Ao87 y274.length co87), H', ⟨by have := HJ12.out; first | omega | exact Nat.le_refl _⟩, ⟨by (with_reducible repeat (first | apply Kd.R_alloc | apply Kd.R_drewN | apply Kd.R_drew)); exact Kd.R_mono (Kd.R_far (p := ⟨gb254, 1, none⟩) (Kd.R_types HO_255000.out BK254.out (by decide)) (fun _ hk => hk.2) (.slice Ao87 y274.length co87)) (fun _ hk => trivial)⟩, ⟨by (with_reducible repeat (first | apply Kd.R_alloc | apply Kd.R_drewN | apply Kd.R_drew)); exact Kd.R_mono (Kd.R_far (p := ⟨gb254, 1, none⟩) (Kd.R_types HO276.out BK254.out (by decide)) (fun _ hk => hk.2) (.slice Ao87 y274.length co87)) (fun _ hk => trivial)⟩, ⟨by (with_reducible repeat (first | refine blk_drewN ?_ _ | refine blk_drew ?_ | refine blk_alloc ?_ _)); refine blk_far ?_ NB245_254.out _; (with_reducible repeat (first | refine blk_drewN ?_ _ | refine blk_drew ?_ | refine blk_alloc ?_ _)); exact BK245.out⟩, ⟨by (with_reducible repeat (first | refine blk_drewN ?_ _ | refine blk_drew ?_ | refine blk_alloc ?_ _)); refine blk_put (cs := #[.slice Ao20 t248.length co20, .slice Ao23 t251.length co23]) ?_ 1 _ rfl; (with_reducible repeat (first | refine blk_drewN ?_ _ | refine blk_drew ?_ | refine blk_alloc ?_ _)); exact BK254.out⟩, ⟨by repeat (first | (with_reducible first | exact HB.out | apply below_alloc | apply pw_below_drewN | apply below_drew1 | refine below_set ?_ GE245.out | refine below_set ?_ GE254.out) | exact HB.out)⟩⟩
                      · rw [if_neg c81] at H
                        have c81b0 : ((ji40) == 4) = false := beq_eq_false_iff_ne.mpr c81
                        have c81b1 : ((ji40) != 4) = true := bne_iff_ne.mpr c81
                        by_cases c89 : (ji40) = 5
                        · rw [if_pos c89] at H
                          have c89b0 : ((ji40) == 5) = true := beq_iff_eq.mpr c89
                          have c89b1 : ((ji40) != 5) = false := bne_eq_false_iff_eq.mpr c89
                          clear c89
                          replace H := Option.bind_eq_some_iff.mp H
                          obtain ⟨t277, A900, H⟩ := H
                          replace H : (if t277.size + 2 ≤ 9223372036854775807 then (if t251.length < 4398046511104 then (damperlaw5_TableRight.j1 kj12 t248 (t251 ++ [(⟨(⟨#[116, 57]⟩ : ByteArray), t277 ++ (⟨#[45, 49]⟩ : ByteArray)⟩ : S35)])) else (none)) else (none)) = some r := H
                          have A90 := Aside0.mk A900
                          clear A900
                          by_cases c91 : t277.size + 2 ≤ 9223372036854775807
                          rotate_left
                          · rw [if_neg c91] at H
                            exact absurd H (by simp)
                          rw [if_pos c91] at H
                          have c91b0 := eq_true c91
                          have c91b1 : decide (t277.size + 2 ≤ 9223372036854775807) = true := decide_eq_true c91
                          try have c91b2 : (9223372036854775807 < t277.size + 2) = False := eq_false (Nat.not_lt.2 c91)
                          try (have c91b4 := c91; simp at c91b4; have c91b5 := eq_false (Nat.not_lt.2 c91b4))
                          by_cases c92 : t251.length < 4398046511104
                          rotate_left
                          · rw [if_neg c92] at H
                            exact absurd H (by simp)
                          rw [if_pos c92] at H
                          have LMc92 := Aside0.mk c92
                          clear c92
                          obtain ⟨y278, hy278⟩ : ∃ y_ : List (S35), y_ = (t251 ++ [(⟨(⟨#[116, 57]⟩ : ByteArray), t277 ++ (⟨#[45, 49]⟩ : ByteArray)⟩ : S35)]) := ⟨_, rfl⟩
                          replace H : (damperlaw5_TableRight.j1 kj12 t248 y278) = some r := by first | (rw [hy278]; with_reducible exact H) | (have H2_ := (Option.bind_some _ _).symm.trans H; rw [hy278]; with_reducible exact H2_) | (have H2_ := (Option.bind_some _ _).symm.trans H; with_reducible exact H2_) | with_reducible exact H | (rw [hy278]; exact H) | exact H
                          have Ny278 := Aside0.mk hy278
                          clear hy278
                          have H' := Aside0.mk H
                          clear H
                          try go_wp2_with (first | (go_at_call 14; refine (damperlaw5_within.keep _ _ rfl (by first | decide | assumption | exact wi_ne (by assumption) | exact wi_ne' (by assumption) | omega) _).mono ?_; rintro e w' ⟨rfl, rfl⟩))
                          replace HO_255000 := Aside0.mk (Kd.R_drew HO_255000.out)
                          replace HO_255001 := Aside0.mk (Kd.R_drew HO_255001.out)
                          replace BK245 := Aside0.mk (blk_drew BK245.out)
                          replace BK254 := Aside0.mk (blk_drew BK254.out)
                          replace HB := Aside0.mk (below_drew1 HB.out)
                          refine start_ (n := 10) (S := fun w' => w'.cell? ⟨gb254, 0, none⟩ = some (.slice Ao20 t248.length co20) ∧ w'.cell? ⟨gb254, 1, none⟩ = some (.slice Ao23 t251.length co23)) (ds := [9]) #[false, false, false, false, false, false, false, false, false, false] (by kernel_rfl) rfl rfl ⟨bc BK254 0, bc BK254 1⟩ (fun hHeld => ?_); refine with_tabW damperlaw5_TableRight.tab21 damperlaw5_TableRight.bits21 (fun HT_ HW_ => ?_)
                          generalize wc.drew = w93 at HO_255000 HO_255001 BK245 BK254 HB hHeld ⊢
                          refine pure_ (i := 0) (N := some 110) (v := ?_) (a' := ?_) #[true, false, false, false, false, false, false, false, false, false] rfl rfl (any_of HT_.out (by kernel_rfl)) (fun _ _ _ h => h) (Or.inl ⟨by rfl, ?_⟩) ?_ ?_
                          rotate_left
                          · intro w'
                            go_simp
                            with_reducible rfl
                          rotate_left
                          · simp only [Act.put, List.setIfInBounds_toArray, List.set_cons_zero, List.set_cons_succ, i64_w, i32_w]
                            rfl
                          refine pure_ (i := 2) (N := some 112) (v := ?_) (a' := ?_) #[true, false, true, false, false, false, false, false, false, false] rfl rfl (any_of HT_.out (by kernel_rfl)) (fun _ _ _ h => h) (Or.inl ⟨by rfl, ?_⟩) ?_ ?_
                          rotate_left
                          · intro w'
                            go_simp
                            with_reducible rfl
                          rotate_left
                          · simp only [Act.put, List.setIfInBounds_toArray, List.set_cons_zero, List.set_cons_succ, i64_w, i32_w]
                            rfl
                          refine take_ (i := 1) (N := some 111) (v := ?_) (a' := ?_) #[true, true, true, false, false, false, false, false, false, false] rfl rfl (take_ofW HT_.out HW_.out (by kernel_rfl)) (fun _ _ _ h => h) (Or.inl ⟨by rfl, ?_⟩) hHeld ?_ ?_
                          rotate_left
                          · rintro w' ⟨s0, s1⟩
                            go_simp
                            with_reducible rfl
                          rotate_left
                          · simp only [Act.put, List.setIfInBounds_toArray, List.set_cons_zero, List.set_cons_succ, i64_w, i32_w]
                            rfl
                          refine one_ (i := 3) (N := some 113) #[true, true, true, true, false, false, false, false, false, false] rfl rfl (one_of HT_.out (by kernel_rfl)) (by decide) (fun K hK => ?_)
                          refine goes_ Tryd.func15 (by kernel_rfl) rfl #[.slice A6 l6.length c6] (by rfl) rfl rfl (by (try simp only [List.map_toArray, List.map_cons, List.map_nil]); first | done | rfl | (simp only [List.length_drop, List.length_take]; rfl)) ?_
                          with_reducible refine (damperlaw1_Text.calls kj12 _ _ l6 t277 _ ?side1 ?side2 A90.out).mono ?_
                          (case side1 => repeat (first | exact (Kd.C_below HR6.out HB.out) | (with_reducible refine Kd.C_alloc ?_ _) | (with_reducible refine Kd.C_drewN ?_ _) | (with_reducible refine Kd.C_drew ?_)))
                          (case side2 => exact HC6.out)
                          rintro e w94 ⟨rfl, hb⟩
                          refine ⟨_, rfl, ?_⟩
                          replace HO_255000 := Aside0.mk (Kd.R_below (by (with_reducible repeat (first | apply Kd.R_alloc | apply Kd.R_drewN | apply Kd.R_drew)); exact HO_255000.out) hb)
                          replace HO_255001 := Aside0.mk (Kd.R_below (by (with_reducible repeat (first | apply Kd.R_alloc | apply Kd.R_drewN | apply Kd.R_drew)); exact HO_255001.out) hb)
                          replace BK245 := Aside0.mk (blk_below (g := gb245) (pk BK245) hb)
                          replace BK254 := Aside0.mk (blk_below (g := gb254) (pk BK254) hb)
                          replace HB := Aside0.mk (below_step (by repeat (first | (with_reducible first | exact HB.out | apply below_alloc | apply pw_below_drewN | apply below_drew1 | refine below_set ?_ GE245.out | refine below_set ?_ GE254.out) | exact HB.out)) hb)
                          (try clear hb)
                          (try clear hb2)
                          (try clear hk)
                          (try clear hi)
                          refine hK.out _ _ ⟨bc BK254 0, bc BK254 1⟩ (fun hHeld => ?_)
                          clear hK K
                          refine norm_ (a' := ?_) ?_ ?_
                          rotate_left
                          · show Act.put _ (some 113) _ = _
                            simp only [Act.put, List.setIfInBounds_toArray, List.set_cons_zero, List.set_cons_succ, i64_w, i32_w]
                            rfl
                          refine pure_ (i := 4) (N := some 114) (v := ?_) (a' := ?_) #[true, true, true, true, true, false, false, false, false, false] rfl rfl (any_of HT_.out (by kernel_rfl)) (fun _ _ _ h => h) (Or.inl ⟨by rfl, ?_⟩) ?_ ?_
                          rotate_left
                          · intro w'
                            go_simp
                            with_reducible rfl
                          rotate_left
                          · simp only [Act.put, List.setIfInBounds_toArray, List.set_cons_zero, List.set_cons_succ, i64_w, i32_w]
                            rfl
                          refine pure_ (i := 5) (N := some 115) (v := ?_) (a' := ?_) #[true, true, true, true, true, true, false, false, false, false] rfl rfl (any_of HT_.out (by kernel_rfl)) (fun _ _ _ h => h) (Or.inl ⟨by rfl, ?_⟩) ?_ ?_
                          rotate_left
                          · intro w'
                            go_simp
                            with_reducible rfl
                          rotate_left
                          · simp only [Act.put, List.setIfInBounds_toArray, List.set_cons_zero, List.set_cons_succ, i64_w, i32_w]
                            rfl
                          refine one_ (i := 6) (N := some 116) #[true, true, true, true, true, true, true, false, false, false] rfl rfl (one_of HT_.out (by kernel_rfl)) (by decide) (fun K hK => ?_)
                          with_reducible_and_instances refine value_ (w1 := ?_) (v := ?_) ?hw_ ?hN_ ?_ ?_
                          (case hw_ => rfl)
                          (case hN_ => rfl)
                          rotate_left 2
                          · go_simp
                            constructor
                            · rfl
                            · rfl
                          refine hK.out _ _ ⟨(blk_cell (blk_alloc BK254.out _) 0).trans rfl, (blk_cell (blk_alloc BK254.out _) 1).trans rfl⟩ (fun hHeld => ?_)
                          clear hK K
                          refine norm_ (a' := ?_) ?_ ?_
                          rotate_left
                          · show Act.put _ (some 116) _ = _
                            simp only [Act.put, List.setIfInBounds_toArray, List.set_cons_zero, List.set_cons_succ, i64_w, i32_w]
                            rfl
                          refine one_ (i := 7) (N := some 117) #[true, true, true, true, true, true, true, true, false, false] rfl rfl (one_of HT_.out (by kernel_rfl)) (by decide) (fun K hK => ?_)
                          refine Kd.R_append_step k35 (w0 := w) w.heap.size (by rfl) (.tmp 111) (.tmp 116) 23 35 (.agg #[(.string ⟨#[]⟩), (.string ⟨#[]⟩)]) 32 rfl Tryd.underlying23 info35 rfl (by decide) (by omega) (.slice Ao23 t251.length co23) t251 (⟨(⟨#[116, 57]⟩ : ByteArray), t277 ++ (⟨#[45, 49]⟩ : ByteArray)⟩ : S35) [.string (⟨#[116, 57]⟩ : ByteArray), .string (t277 ++ (⟨#[45, 49]⟩ : ByteArray))] (fun _ => True) (fun _ => False) rfl rfl ?aP (fun _ hk => hk.elim) ?aF ?aO ?aB ?aS ?aL ?_
                          (case aP => exact k35_mkM _ _ _ (⟨(⟨#[116, 57]⟩ : ByteArray), t277 ++ (⟨#[45, 49]⟩ : ByteArray)⟩ : S35))
                          (case aB => exact (by repeat (first | (with_reducible first | exact HB.out | apply below_alloc | apply pw_below_drewN | apply below_drew1 | refine below_set ?_ GE245.out | refine below_set ?_ GE254.out) | exact HB.out)))
                          (case aF => exact (fun _ _ => trivial))
                          (case aO => exact (by (with_reducible repeat (first | apply Kd.R_alloc | apply Kd.R_drewN | apply Kd.R_drew)); exact HO_255001.out))
                          (case aS => exact (below_size (by repeat (first | (with_reducible first | exact HB.out | apply below_alloc | apply pw_below_drewN | apply below_drew1 | refine below_set ?_ GE245.out | refine below_set ?_ GE254.out) | exact HB.out))))
                          (case aL => have := LMc92.out; omega)
                          intro v279 w95 ho hb hg hat
                          rw [← Ny278.out] at ho
                          have HO280 := Aside0.mk (ho)
                          replace HO_255000 := Aside0.mk (Kd.R_over' (by (with_reducible repeat (first | apply Kd.R_alloc | apply Kd.R_drewN | apply Kd.R_drew)); exact HO_255000.out) (Kd.R_typed (by (with_reducible repeat (first | apply Kd.R_alloc | apply Kd.R_drewN | apply Kd.R_drew)); exact HO_255001.out)) (by decide) hg)
                          replace BK245 := Aside0.mk (blk_grown (g := gb245) (pk BK245) hg (Kd.R_ne HO_255001.out BK245.out (by decide)))
                          replace BK254 := Aside0.mk (blk_grown (g := gb254) (pk BK254) hg (Kd.R_ne HO_255001.out BK254.out (by decide)))
                          replace HB := Aside0.mk (hb)
                          clear HO_255001
                          clear ho hb hg hat
                          obtain ⟨Ao96, co96, eo96⟩ := Kd.R_slice HO280.out
                          (first | subst eo96 | (injection eo96 with f1_ f2_ f3_; have f4_ := f1_.symm; have f5_ := f3_.symm; clear f1_ f2_ f3_; subst f4_; subst f5_))
                          refine hK.out _ _ ⟨bc BK254 0, bc BK254 1⟩ (fun hHeld => ?_)
                          clear hK K
                          refine norm_ (a' := ?_) ?_ ?_
                          rotate_left
                          · show Act.put _ (some 117) _ = _
                            simp only [Act.put, List.setIfInBounds_toArray, List.set_cons_zero, List.set_cons_succ, i64_w, i32_w]
                            rfl
                          refine pure_ (i := 8) (N := some 118) (v := ?_) (a' := ?_) #[true, true, true, true, true, true, true, true, true, false] rfl rfl (any_of HT_.out (by kernel_rfl)) (fun _ _ _ h => h) (Or.inl ⟨by rfl, ?_⟩) ?_ ?_
                          rotate_left
                          · intro w'
                            go_simp
                            with_reducible rfl
                          rotate_left
                          · simp only [Act.put, List.setIfInBounds_toArray, List.set_cons_zero, List.set_cons_succ, i64_w, i32_w]
                            rfl
                          refine last_ (i := 9) (N := none) #[true, true, true, true, true, true, true, true, true, true] rfl rfl (one_of HT_.out (by kernel_rfl)) (by decide) (fun K hK => ?_)
                          have hs97 : w95.cell? ⟨gb254, 1, none⟩ = some (.slice Ao23 t251.length co23) := bc BK254 1
                          have hfs97 := blk_frozen BK254.out 1
                          have hns97_0 := NB245_254.out
                          have hms97_0 := NB254_245.out
                          with_reducible_and_instances refine skip_ (w1 := ?_) ?hw_ ?hN_ ?_ ?_
                          (case hw_ => rfl)
                          (case hN_ => rfl)
                          rotate_left
                          · go_simp
                            rfl
                          refine hK.out _ _ ?_
                          clear hK K
                          refine done_ (done_of HT_.out (by kernel_rfl)) ?_
                          try go_wp2_with (first | (go_at_call 14; refine (damperlaw5_within.keep _ _ rfl (by first | decide | assumption | exact wi_ne (by assumption) | exact wi_ne' (by assumption) | omega) _).mono ?_; rintro e w' ⟨rfl, rfl⟩))
                          go_meet
                          case rel => exact ⟨_, (t248), (y278), (.slice Ao20 t248.length co20), (.slice Ao96 y278.length co96), H', ⟨by have := HJ12.out; first | omega | exact Nat.le_refl _⟩, ⟨by (with_reducible repeat (first | apply Kd.R_alloc | apply Kd.R_drewN | apply Kd.R_drew)); exact Kd.R_mono (Kd.R_far (p := ⟨gb254, 1, none⟩) (Kd.R_types HO_255000.out BK254.out (by decide)) (fun _ hk => hk.2) (.slice Ao96 y278.length co96)) (fun _ hk => trivial)⟩, ⟨by (with_reducible repeat (first | apply Kd.R_alloc | apply Kd.R_drewN | apply Kd.R_drew)); exact Kd.R_mono (Kd.R_far (p := ⟨gb254, 1, none⟩) (Kd.R_types HO280.out BK254.out (by decide)) (fun _ hk => hk.2) (.slice Ao96 y278.length co96)) (fun _ hk => trivial)⟩, ⟨by (with_reducible repeat (first | refine blk_drewN ?_ _ | refine blk_drew ?_ | refine blk_alloc ?_ _)); refine blk_far ?_ NB245_254.out _; (with_reducible repeat (first | refine blk_drewN ?_ _ | refine blk_drew ?_ | refine blk_alloc ?_ _)); exact BK245.out⟩, ⟨by (with_reducible repeat (first | refine blk_drewN ?_ _ | refine blk_drew ?_ | refine blk_alloc ?_ _)); refine blk_put (cs := #[.slice Ao20 t248.length co20, .slice Ao23 t251.length co23]) ?_ 1 _ rfl; (with_reducible repeat (first | refine blk_drewN ?_ _ | refine blk_drew ?_ | refine blk_alloc ?_ _)); exact BK254.out⟩, ⟨by repeat (first | (with_reducible first | exact HB.out | apply below_alloc | apply pw_below_drewN | apply below_drew1 | refine below_set ?_ GE245.out | refine below_set ?_ GE254.out) | exact HB.out)⟩⟩
                        · rw [if_neg c89] at H
                          have c89b0 : ((ji40) == 5) = false := beq_eq_false_iff_ne.mpr c89
                          have c89b1 : ((ji40) != 5) = true := bne_iff_ne.mpr c89
                          by_cases c98 : (ji40) = 6
                          · rw [if_pos c98] at H
                            have c98b0 : ((ji40) == 6) = true := beq_iff_eq.mpr c98
                            have c98b1 : ((ji40) != 6) = false := bne_eq_false_iff_eq.mpr c98
                            clear c98
                            obtain ⟨ji99, hji99⟩ : ∃ j_ : Int, (wi a5 (t248.length : Int)) = j_ := ⟨_, rfl⟩
                            replace H : (if 0 ≤ (ji99) then (if (ji99) ≤ (t248.length : Int) then (damperlaw5_TableRight.j1 kj12 (t248.take ((ji99) : Int).toNat) t251) else (none)) else (none)) = some r := by first | (rw [hji99] at H; exact H) | (simp only [hji99] at H ⊢; exact H)
                            by_cases c100 : 0 ≤ (ji99)
                            rotate_left
                            · rw [if_neg c100] at H
                              exact absurd H (by simp)
                            rw [if_pos c100] at H
                            have c100b0 := eq_true c100
                            have c100b1 : decide (0 ≤ (ji99)) = true := decide_eq_true c100
                            try have c100bm : max (ji99) 0 = (ji99) := Int.max_eq_left c100
                            clear c100
                            by_cases c101 : (ji99) ≤ (t248.length : Int)
                            rotate_left
                            · rw [if_neg c101] at H
                              exact absurd H (by simp)
                            rw [if_pos c101] at H
                            have c101b0 := eq_true c101
                            have c101b1 : decide ((ji99) ≤ (t248.length : Int)) = true := decide_eq_true c101
                            clear c101
                            obtain ⟨y281, hy281⟩ : ∃ y_ : List (S32), y_ = (t248.take ((ji99) : Int).toNat) := ⟨_, rfl⟩
                            replace H : (damperlaw5_TableRight.j1 kj12 y281 t251) = some r := by first | (rw [hy281]; with_reducible exact H) | (have H2_ := (Option.bind_some _ _).symm.trans H; rw [hy281]; with_reducible exact H2_) | (have H2_ := (Option.bind_some _ _).symm.trans H; with_reducible exact H2_) | with_reducible exact H | (rw [hy281]; exact H) | exact H
                            have Ny281 := Aside0.mk hy281
                            clear hy281
                            have H' := Aside0.mk H
                            clear H
                            try go_wp2_with (first | (go_at_call 14; refine (damperlaw5_within.keep _ _ rfl (by first | decide | assumption | exact wi_ne (by assumption) | exact wi_ne' (by assumption) | omega) _).mono ?_; rintro e w' ⟨rfl, rfl⟩))
                            replace HO_255000 := Aside0.mk (Kd.R_drew HO_255000.out)
                            replace HO_255001 := Aside0.mk (Kd.R_drew HO_255001.out)
                            replace BK245 := Aside0.mk (blk_drew BK245.out)
                            replace BK254 := Aside0.mk (blk_drew BK254.out)
                            replace HB := Aside0.mk (below_drew1 HB.out)
                            have q103 : ((ji99) : Int) ≤ ((t248.length : Int) : Int) := of_decide_eq_true (by first | (with_reducible assumption) | assumption)
                            obtain ⟨i0103, hi0103, _, hsz103, _⟩ := info_parts info32
                            have hcut103 := cut_to (P := Tryd.prog) 22 32 .i64 Tryd.underlying22 hi0103 Ao20 t248.length co20 (ji99) (of_decide_eq_true (by first | (with_reducible assumption) | assumption)) q103 (Kd.R_reads' HO_255000.out).2.1
                            have hr103 := Kd.R_take (m := ((ji99) : Int).toNat) HO_255000.out (by omega)
                            have hy103 : y281.length = ((ji99) : Int).toNat := (by rw [Ny281.out, List.length_take]; omega)
                            rw [← Ny281.out] at hr103
                            rw [← hy103] at hr103 hcut103
                            clear hy103 hi0103 hsz103 HO_255000
                            have HO283 := Aside0.mk hr103
                            clear hr103
                            replace q103 := eq_true q103
                            refine start_ (n := 10) (S := fun w' => w'.cell? ⟨gb254, 0, none⟩ = some (.slice Ao20 t248.length co20) ∧ w'.cell? ⟨gb254, 1, none⟩ = some (.slice Ao23 t251.length co23)) (ds := [9]) #[false, false, false, false, false, false, false, false, false, false] (by kernel_rfl) rfl rfl ⟨bc BK254 0, bc BK254 1⟩ (fun hHeld => ?_); refine with_tabW damperlaw5_TableRight.tab23 damperlaw5_TableRight.bits23 (fun HT_ HW_ => ?_)
                            generalize wc.drew = w102 at HO_255001 BK245 BK254 HB HO283 hHeld ⊢
                            refine pure_ (i := 0) (N := some 121) (v := ?_) (a' := ?_) #[true, false, false, false, false, false, false, false, false, false] rfl rfl (any_of HT_.out (by kernel_rfl)) (fun _ _ _ h => h) (Or.inl ⟨by rfl, ?_⟩) ?_ ?_
                            rotate_left
                            · intro w'
                              go_simp
                              with_reducible rfl
                            rotate_left
                            · simp only [Act.put, List.setIfInBounds_toArray, List.set_cons_zero, List.set_cons_succ, i64_w, i32_w]
                              rfl
                            refine pure_ (i := 2) (N := some 123) (v := ?_) (a' := ?_) #[true, false, true, false, false, false, false, false, false, false] rfl rfl (any_of HT_.out (by kernel_rfl)) (fun _ _ _ h => h) (Or.inl ⟨by rfl, ?_⟩) ?_ ?_
                            rotate_left
                            · intro w'
                              go_simp
                              with_reducible rfl
                            rotate_left
                            · simp only [Act.put, List.setIfInBounds_toArray, List.set_cons_zero, List.set_cons_succ, i64_w, i32_w]
                              rfl
                            refine pure_ (i := 3) (N := some 124) (v := ?_) (a' := ?_) #[true, false, true, true, false, false, false, false, false, false] rfl rfl (any_of HT_.out (by kernel_rfl)) (fun _ _ _ h => h) (Or.inl ⟨by rfl, ?_⟩) ?_ ?_
                            rotate_left
                            · intro w'
                              go_simp
                              with_reducible rfl
                            rotate_left
                            · simp only [Act.put, List.setIfInBounds_toArray, List.set_cons_zero, List.set_cons_succ, i64_w, i32_w]
                              rfl
                            refine take_ (i := 1) (N := some 122) (v := ?_) (a' := ?_) #[true, true, true, true, false, false, false, false, false, false] rfl rfl (take_ofW HT_.out HW_.out (by kernel_rfl)) (fun _ _ _ h => h) (Or.inl ⟨by rfl, ?_⟩) hHeld ?_ ?_
                            rotate_left
                            · rintro w' ⟨s0, s1⟩
                              go_simp
                              with_reducible rfl
                            rotate_left
                            · simp only [Act.put, List.setIfInBounds_toArray, List.set_cons_zero, List.set_cons_succ, i64_w, i32_w]
                              rfl
                            refine take_ (i := 4) (N := some 125) (v := ?_) (a' := ?_) #[true, true, true, true, true, false, false, false, false, false] rfl rfl (take_ofW HT_.out HW_.out (by kernel_rfl)) (fun _ _ _ h => h) (Or.inl ⟨by rfl, ?_⟩) hHeld ?_ ?_
                            rotate_left
                            · rintro w' ⟨s0, s1⟩
                              go_simp
                              with_reducible rfl
                            rotate_left
                            · simp only [Act.put, List.setIfInBounds_toArray, List.set_cons_zero, List.set_cons_succ, i64_w, i32_w]
                              rfl
                            refine pure_ (i := 5) (N := some 126) (v := ?_) (a' := ?_) #[true, true, true, true, true, true, false, false, false, false] rfl rfl (any_of HT_.out (by kernel_rfl)) (fun _ _ _ h => h) (Or.inl ⟨by rfl, ?_⟩) ?_ ?_
                            rotate_left
                            · intro w'
                              go_simp
                              with_reducible rfl
                            rotate_left
                            · simp only [Act.put, List.setIfInBounds_toArray, List.set_cons_zero, List.set_cons_succ, i64_w, i32_w]
                              rfl
                            refine callp_ (i := 6) (N := some 127) (a' := ?a5_) #[true, true, true, true, true, true, true, false, false, false] rfl rfl (by kernel_rfl) (fun _ _ _ h => h) (by rfl) Tryd.func14 (by kernel_rfl) rfl rfl (by (try simp only [List.map_toArray, List.map_cons, List.map_nil]); rfl) (damperlaw5_within.same _ _ (r := ?jj5_) ?hj5_ (by first | decide | assumption | exact wi_ne (by assumption) | exact wi_ne' (by assumption) | omega)) ?ha5_ ?h5_
                            (case hj5_ => (try simp only [i64_w, i32_w]); first | assumption | (go_simp; rfl))
                            (case ha5_ => simp only [Act.put, List.setIfInBounds_toArray, List.set_cons_zero, List.set_cons_succ, i64_w, i32_w]; rfl)
                            refine pure_ (i := 7) (N := some 128) (v := ?_) (a' := ?_) #[true, true, true, true, true, true, true, true, false, false] rfl rfl (any_of HT_.out (by kernel_rfl)) (fun _ _ _ h => h) (Or.inl ⟨by rfl, ?_⟩) ?_ ?_
                            rotate_left
                            · intro w'
                              go_simp
                              with_reducible rfl
                            rotate_left
                            · simp only [Act.put, List.setIfInBounds_toArray, List.set_cons_zero, List.set_cons_succ, i64_w, i32_w]
                              rfl
                            refine pure_ (i := 8) (N := some 129) (v := ?_) (a' := ?_) #[true, true, true, true, true, true, true, true, true, false] rfl rfl (any_of HT_.out (by kernel_rfl)) (fun _ _ _ h => h) (Or.inl ⟨by rfl, ?_⟩) ?_ ?_
                            rotate_left
                            · intro w'
                              go_simp
                              with_reducible rfl
                            rotate_left
                            · simp only [Act.put, List.setIfInBounds_toArray, List.set_cons_zero, List.set_cons_succ, i64_w, i32_w]
                              rfl
                            refine last_ (i := 9) (N := none) #[true, true, true, true, true, true, true, true, true, true] rfl rfl (one_of HT_.out (by kernel_rfl)) (by decide) (fun K hK => ?_)
                            have hs104 : w102.cell? ⟨gb254, 0, none⟩ = some (.slice Ao20 t248.length co20) := bc BK254 0
                            have hfs104 := blk_frozen BK254.out 0
                            have hns104_0 := NB245_254.out
                            have hms104_0 := NB254_245.out
                            with_reducible_and_instances refine skip_ (w1 := ?_) ?hw_ ?hN_ ?_ ?_
                            (case hw_ => rfl)
                            (case hN_ => rfl)
                            rotate_left
                            · go_simp
                              rfl
                            refine hK.out _ _ ?_
                            clear hK K
                            refine done_ (done_of HT_.out (by kernel_rfl)) ?_
                            try go_wp2_with (first | (go_at_call 14; refine (damperlaw5_within.keep _ _ rfl (by first | decide | assumption | exact wi_ne (by assumption) | exact wi_ne' (by assumption) | omega) _).mono ?_; rintro e w' ⟨rfl, rfl⟩))
                            go_meet
                            case rel => exact ⟨_, (y281), (t251), (.slice Ao20 y281.length co20), (.slice Ao23 t251.length co23), H', ⟨by have := HJ12.out; first | omega | exact Nat.le_refl _⟩, ⟨by (with_reducible repeat (first | apply Kd.R_alloc | apply Kd.R_drewN | apply Kd.R_drew)); exact Kd.R_mono (Kd.R_far (p := ⟨gb254, 0, none⟩) (Kd.R_types HO283.out BK254.out (by decide)) (fun _ hk => hk.2) (.slice Ao20 y281.length co20)) (fun _ hk => trivial)⟩, ⟨by (with_reducible repeat (first | apply Kd.R_alloc | apply Kd.R_drewN | apply Kd.R_drew)); exact Kd.R_mono (Kd.R_far (p := ⟨gb254, 0, none⟩) (Kd.R_types HO_255001.out BK254.out (by decide)) (fun _ hk => hk.2) (.slice Ao20 y281.length co20)) (fun _ hk => trivial)⟩, ⟨by (with_reducible repeat (first | refine blk_drewN ?_ _ | refine blk_drew ?_ | refine blk_alloc ?_ _)); refine blk_far ?_ NB245_254.out _; (with_reducible repeat (first | refine blk_drewN ?_ _ | refine blk_drew ?_ | refine blk_alloc ?_ _)); exact BK245.out⟩, ⟨by (with_reducible repeat (first | refine blk_drewN ?_ _ | refine blk_drew ?_ | refine blk_alloc ?_ _)); refine blk_put (cs := #[.slice Ao20 t248.length co20, .slice Ao23 t251.length co23]) ?_ 0 _ rfl; (with_reducible repeat (first | refine blk_drewN ?_ _ | refine blk_drew ?_ | refine blk_alloc ?_ _)); exact BK254.out⟩, ⟨by repeat (first | (with_reducible first | exact HB.out | apply below_alloc | apply pw_below_drewN | apply below_drew1 | refine below_set ?_ GE245.out | refine below_set ?_ GE254.out) | exact HB.out)⟩⟩
                          · rw [if_neg c98] at H
                            have c98b0 : ((ji40) == 6) = false := beq_eq_false_iff_ne.mpr c98
                            have c98b1 : ((ji40) != 6) = true := bne_iff_ne.mpr c98
                            have H' := Aside0.mk H
                            clear H
                            go_wp2_with (first | (go_at_call 14; refine (damperlaw5_within.keep _ _ rfl (by first | decide | assumption | exact wi_ne (by assumption) | exact wi_ne' (by assumption) | omega) _).mono ?_; rintro e w' ⟨rfl, rfl⟩))
                            go_meet
                            case rel => exact ⟨_, (t248), (t251), (.slice Ao20 t248.length co20), (.slice Ao23 t251.length co23), H', ⟨by have := HJ12.out; first | omega | exact Nat.le_refl _⟩, ⟨by (with_reducible repeat (first | apply Kd.R_alloc | apply Kd.R_drewN | apply Kd.R_drew)); exact HO_255000.out⟩, ⟨by (with_reducible repeat (first | apply Kd.R_alloc | apply Kd.R_drewN | apply Kd.R_drew)); exact HO_255001.out⟩, ⟨by (with_reducible repeat (first | refine blk_drewN ?_ _ | refine blk_drew ?_ | refine blk_alloc ?_ _)); exact BK245.out⟩, ⟨by (with_reducible repeat (first | refine blk_drewN ?_ _ | refine blk_drew ?_ | refine blk_alloc ?_ _)); exact BK254.out⟩, ⟨by repeat (first | (with_reducible first | exact HB.out | apply below_alloc | apply pw_below_drewN | apply below_drew1 | refine below_set ?_ GE245.out | refine below_set ?_ GE254.out) | exact HB.out)⟩⟩
            case rest =>
              clear HC41
              try clear c1
              try clear q1
              try clear p2
              try clear c6
              try clear c7
              try clear c8
              try clear c9
              try clear c10
              try clear q10
              try clear c14
              try clear c15
              try clear c65
              try clear c65b0
              try clear c65b1
              try clear c74
              try clear c74b0
              try clear c74b1
              try clear c75
              try clear c76
              try clear c81
              try clear c81b0
              try clear c81b1
              try clear c83
              try clear c89
              try clear c89b0
              try clear c89b1
              try clear c91
              try clear c91b0
              try clear c91b1
              try clear c91b2
              try clear c92
              try clear c98
              try clear c98b0
              try clear c98b1
              try clear c100
              try clear c100b0
              try clear c100b1
              try clear c101
              try clear c101b0
              try clear c101b1
              try clear q103
              try clear hcz77_0
              try clear hcz77_1
              try clear hcz80_0
              try clear hcz80_1
              try clear hfz77_0
              try clear hfz77_1
              try clear hfz80_0
              try clear hfz80_1
              try clear q103
              obtain ⟨kq, x255000_40, x255001_40, u255000, u255001, HA, HJ40, HO_255000, HO_255001, BK245, BK254, HB⟩ := hcut
              cases kq with
              | zero => exact absurd HA.out (by simp [damperlaw5_TableRight.j1])
              | succ kj40 =>
                have H := HA.out
                clear HA
                simp only [damperlaw5_TableRight.j1] at H
                replace H := Option.bind_eq_some_iff.mp H
                obtain ⟨t284, A1050, H⟩ := H
                replace H : ((damperref5_Right.f kj40 x255000_40 x255001_40).bind fun t285 => (some (t284 == t285))) = some r := H
                have A105 := Aside0.mk A1050
                clear A1050
                replace H := Option.bind_eq_some_iff.mp H
                obtain ⟨t285, A1060, H⟩ := H
                replace H : (some (t284 == t285)) = some r := H
                have A106 := Aside0.mk A1060
                clear A1060
                obtain rfl := Option.some.inj H
                try go_wp2_with (first | (go_at_call 14; refine (damperlaw5_within.keep _ _ rfl (by first | decide | assumption | exact wi_ne (by assumption) | exact wi_ne' (by assumption) | omega) _).mono ?_; rintro e w' ⟨rfl, rfl⟩))
                replace HO_255000 := Aside0.mk (Kd.R_drew HO_255000.out)
                replace HO_255001 := Aside0.mk (Kd.R_drew HO_255001.out)
                replace BK245 := Aside0.mk (blk_drew BK245.out)
                replace BK254 := Aside0.mk (blk_drew BK254.out)
                replace HB := Aside0.mk (below_drew1 HB.out)
                obtain ⟨Ao108, co108, eo108⟩ := Kd.R_slice HO_255000.out
                (first | subst eo108 | (injection eo108 with f1_ f2_ f3_; have f4_ := f1_.symm; have f5_ := f3_.symm; clear f1_ f2_ f3_; subst f4_; subst f5_))
                obtain ⟨Ao109, co109, eo109⟩ := Kd.R_slice HO_255001.out
                (first | subst eo109 | (injection eo109 with f1_ f2_ f3_; have f4_ := f1_.symm; have f5_ := f3_.symm; clear f1_ f2_ f3_; subst f4_; subst f5_))
                refine start_ (n := 6) (S := fun w' => w'.cell? ⟨gb254, 0, none⟩ = some (.slice Ao108 x255000_40.length co108) ∧ w'.cell? ⟨gb254, 1, none⟩ = some (.slice Ao109 x255001_40.length co109)) (ds := []) #[false, false, false, false, false, false] (by kernel_rfl) rfl rfl ⟨bc BK254 0, bc BK254 1⟩ (fun hHeld => ?_)
                generalize wc.drew = w107 at HO_255000 HO_255001 BK245 BK254 HB hHeld ⊢
                refine take_ (i := 0) (N := some 130) (v := ?_) (a' := ?_) #[true, false, false, false, false, false] rfl rfl (by kernel_rfl) (fun _ _ _ h => h) (Or.inl ⟨by rfl, ?_⟩) hHeld ?_ ?_
                rotate_left
                · rintro w' ⟨s0, s1⟩
                  go_simp
                  with_reducible rfl
                rotate_left
                · simp only [Act.put, List.setIfInBounds_toArray, List.set_cons_zero, List.set_cons_succ, i64_w, i32_w]
                  rfl
                refine take_ (i := 2) (N := some 132) (v := ?_) (a' := ?_) #[true, false, true, false, false, false] rfl rfl (by kernel_rfl) (fun _ _ _ h => h) (Or.inl ⟨by rfl, ?_⟩) hHeld ?_ ?_
                rotate_left
                · rintro w' ⟨s0, s1⟩
                  go_simp
                  with_reducible rfl
                rotate_left
                · simp only [Act.put, List.setIfInBounds_toArray, List.set_cons_zero, List.set_cons_succ, i64_w, i32_w]
                  rfl
                refine one_ (i := 1) (N := some 131) #[true, true, true, false, false, false] rfl rfl (by kernel_rfl) (by decide) (fun K hK => ?_)
                refine goes_ Tryd.func12 (by kernel_rfl) rfl #[.agg #[.slice Ao108 x255000_40.length co108, .slice Ao109 x255001_40.length co109]] (by rfl) rfl rfl (by (try simp only [List.map_toArray, List.map_cons, List.map_nil]); first | done | rfl | (simp only [List.length_drop, List.length_take]; rfl)) ?_
                with_reducible refine (table_Right.calls _ _ x255000_40 _ _ x255001_40 t284 _ ?side5 ?side1 ?side2 ?side3 ?side4 A105.out).mono ?_
                (case side1 => repeat (first | exact (Kd.R_reads' HO_255000.out).2.2 | (with_reducible refine Kd.C_alloc ?_ _) | (with_reducible refine Kd.C_drewN ?_ _) | (with_reducible refine Kd.C_drew ?_)))
                (case side2 => exact (Kd.R_reads' HO_255000.out).2.1)
                (case side3 => repeat (first | exact (Kd.R_reads' HO_255001.out).2.2 | (with_reducible refine Kd.C_alloc ?_ _) | (with_reducible refine Kd.C_drewN ?_ _) | (with_reducible refine Kd.C_drew ?_)))
                (case side4 => exact (Kd.R_reads' HO_255001.out).2.1)
                (case side5 => first | exact hLd_.out | exact hLd_ | exact ⟨LaidW.below hLd_.out (by repeat (first | (with_reducible first | exact HB.out | apply below_alloc | apply pw_below_drewN | apply below_drew1 | refine below_set ?_ GE245.out | refine below_set ?_ GE254.out) | exact HB.out))⟩ | exact ⟨LaidW.below hLd_.out (by repeat (first | exact Below.refl _ _ | apply below_alloc | apply pw_below_drewN | apply below_drew1))⟩)
                rintro e w110 ⟨rfl, hb⟩
                refine ⟨_, rfl, ?_⟩
                replace HO_255000 := Aside0.mk (Kd.R_below (by (with_reducible repeat (first | apply Kd.R_alloc | apply Kd.R_drewN | apply Kd.R_drew)); exact HO_255000.out) hb)
                replace HO_255001 := Aside0.mk (Kd.R_below (by (with_reducible repeat (first | apply Kd.R_alloc | apply Kd.R_drewN | apply Kd.R_drew)); exact HO_255001.out) hb)
                replace BK245 := Aside0.mk (blk_below (g := gb245) (pk BK245) hb)
                replace BK254 := Aside0.mk (blk_below (g := gb254) (pk BK254) hb)
                replace HB := Aside0.mk (below_step (by repeat (first | (with_reducible first | exact HB.out | apply below_alloc | apply pw_below_drewN | apply below_drew1 | refine below_set ?_ GE245.out | refine below_set ?_ GE254.out) | exact HB.out)) hb)
                (try clear hb)
                (try clear hb2)
                (try clear hk)
                (try clear hi)
                refine hK.out _ _ ⟨bc BK254 0, bc BK254 1⟩ (fun hHeld => ?_)
                clear hK K
                refine norm_ (a' := ?_) ?_ ?_
                rotate_left
                · show Act.put _ (some 131) _ = _
                  simp only [Act.put, List.setIfInBounds_toArray, List.set_cons_zero, List.set_cons_succ, i64_w, i32_w]
                  rfl
                refine one_ (i := 3) (N := some 133) #[true, true, true, true, false, false] rfl rfl (by kernel_rfl) (by decide) (fun K hK => ?_)
                refine goes_ Tryd.func13 (by kernel_rfl) rfl #[.agg #[.slice Ao108 x255000_40.length co108, .slice Ao109 x255001_40.length co109]] (by rfl) rfl rfl (by (try simp only [List.map_toArray, List.map_cons, List.map_nil]); first | done | rfl | (simp only [List.length_drop, List.length_take]; rfl)) ?_
                with_reducible refine (damperref5_Right.calls kj40 _ _ x255000_40 _ _ x255001_40 t285 _ ?side1 ?side2 ?side3 ?side4 A106.out).mono ?_
                (case side1 => repeat (first | exact (Kd.R_reads' HO_255000.out).2.2 | (with_reducible refine Kd.C_alloc ?_ _) | (with_reducible refine Kd.C_drewN ?_ _) | (with_reducible refine Kd.C_drew ?_)))
                (case side2 => exact (Kd.R_reads' HO_255000.out).2.1)
                (case side3 => repeat (first | exact (Kd.R_reads' HO_255001.out).2.2 | (with_reducible refine Kd.C_alloc ?_ _) | (with_reducible refine Kd.C_drewN ?_ _) | (with_reducible refine Kd.C_drew ?_)))
                (case side4 => exact (Kd.R_reads' HO_255001.out).2.1)
                rintro e w111 ⟨rfl, hb⟩
                refine ⟨_, rfl, ?_⟩
                replace HO_255000 := Aside0.mk (Kd.R_below (by (with_reducible repeat (first | apply Kd.R_alloc | apply Kd.R_drewN | apply Kd.R_drew)); exact HO_255000.out) hb)
                replace HO_255001 := Aside0.mk (Kd.R_below (by (with_reducible repeat (first | apply Kd.R_alloc | apply Kd.R_drewN | apply Kd.R_drew)); exact HO_255001.out) hb)
                replace BK245 := Aside0.mk (blk_below (g := gb245) (pk BK245) hb)
                replace BK254 := Aside0.mk (blk_below (g := gb254) (pk BK254) hb)
                replace HB := Aside0.mk (below_step (by repeat (first | (with_reducible first | exact HB.out | apply below_alloc | apply pw_below_drewN | apply below_drew1 | refine below_set ?_ GE245.out | refine below_set ?_ GE254.out) | exact HB.out)) hb)
                (try clear hb)
                (try clear hb2)
                (try clear hk)
                (try clear hi)
                refine hK.out _ _ ⟨bc BK254 0, bc BK254 1⟩ (fun hHeld => ?_)
                clear hK K
                refine norm_ (a' := ?_) ?_ ?_
                rotate_left
                · show Act.put _ (some 133) _ = _
                  simp only [Act.put, List.setIfInBounds_toArray, List.set_cons_zero, List.set_cons_succ, i64_w, i32_w]
                  rfl
                refine pure_ (i := 4) (N := some 134) (v := ?_) (a' := ?_) #[true, true, true, true, true, false] rfl rfl (by kernel_rfl) (fun _ _ _ h => h) (Or.inl ⟨by rfl, ?_⟩) ?_ ?_
                rotate_left
                · intro w'
                  go_simp
                  with_reducible rfl
                rotate_left
                · simp only [Act.put, List.setIfInBounds_toArray, List.set_cons_zero, List.set_cons_succ, i64_w, i32_w]
                  rfl
                refine pure_ (i := 5) (N := some 14) (v := ?_) (a' := ?_) #[true, true, true, true, true, true] rfl rfl (by kernel_rfl) (fun _ _ _ h => h) (Or.inl ⟨by rfl, ?_⟩) ?_ ?_
                rotate_left
                · intro w'
                  go_simp
                  with_reducible rfl
                rotate_left
                · simp only [Act.put, List.setIfInBounds_toArray, List.set_cons_zero, List.set_cons_succ, i64_w, i32_w]
                  rfl
                refine done_ (by kernel_rfl) ?_
                try go_wp2_with (first | (go_at_call 14; refine (damperlaw5_within.keep _ _ rfl (by first | decide | assumption | exact wi_ne (by assumption) | exact wi_ne' (by assumption) | omega) _).mono ?_; rintro e w' ⟨rfl, rfl⟩))
                go_ret
                exact ⟨by first | rfl | (simp [errW_none, errW_some] <;> rfl) | (simp only [← hji39, ← hji40]; first | rfl | (simp [errW_none, errW_some] <;> rfl)) | (simp [*, errW_none, errW_some] <;> rfl), by repeat (first | (with_reducible first | exact HB.out | apply below_alloc | apply pw_below_drewN | apply below_drew1 | refine below_set ?_ GE245.out | refine below_set ?_ GE254.out) | exact HB.out)⟩
    · replace c11 := Bool.eq_false_iff.mpr c11
      subst c11
      have H1 : (some true) = some r := by rw [if_neg (show ¬ (false = true) by decide)] at H; exact H
      clear H
      have H := H1
      clear H1
      obtain rfl := Option.some.inj H
      go_enter Tryd.func3, Tryd.ntmps3
      go_wp2_with (first | (go_at_call 14; refine (damperlaw5_within.keep _ _ rfl (by first | decide | assumption | exact wi_ne (by assumption) | exact wi_ne' (by assumption) | omega) _).mono ?_; rintro e w' ⟨rfl, rfl⟩) | ((with_reducible refine gate_dst (N := 7) rfl ?_); refine box_event ?hg (N := 7) ?hd (cs := #[.slice A0_0 l0_0.length c0_0, .slice A0_1 l0_1.length c0_1]) (t := 25) ?hr ?_; (case hd => rfl); (case hg => rfl); (case hr => first | (go_simp; done) | (go_simp; rfl)); intro gb245 hg w112 hbox hb; have n0_ := Aside0.mk (below_step (by repeat (first | (with_reducible first | exact HB.out | apply below_alloc | apply pw_below_drewN | apply below_drew1) | exact HB.out)) hb); have n1_ := Aside0.mk (hbox); have n2_ := Aside0.mk ((by rw [hg]; exact (below_size (by repeat (first | (with_reducible first | exact HB.out | apply below_alloc | apply pw_below_drewN | apply below_drew1) | exact HB.out))) : w.heap.size ≤ gb245)); have n3_ := Aside0.mk ((by rw [hg]; exact (below_size (by repeat (first | (with_reducible first | exact HB.out | apply below_alloc | apply pw_below_drewN | apply below_drew1) | exact HB.out))) : w.heap.size ≤ gb245)); clear HB; have HB := n0_; have BK245 := n1_; have GW245 := n2_; have GE245 := n3_; clear n0_ n1_ n2_ n3_; clear hb hbox hg) | ((with_reducible refine gate_callee (f := 9) rfl ?_); refine goesL_ (some 17) rfl rfl Tryd.func9 (by kernel_rfl) rfl #[] rfl (by (try simp only [List.map_toArray, List.map_cons, List.map_nil]); first | done | rfl | (simp only [List.length_drop, List.length_take]; rfl)) ?_; (with_reducible refine (damperlaw5_known.calls k  true _ ?side1 A8.out).mono ?_); (case side1 => first | exact hLd_.out | exact hLd_ | exact ⟨LaidW.below hLd_.out (by repeat (first | (with_reducible first | exact HB.out | apply below_alloc | apply pw_below_drewN | apply below_drew1 | refine below_set ?_ GE245.out) | exact HB.out))⟩ | exact ⟨LaidW.below hLd_.out (by repeat (first | exact Below.refl _ _ | apply below_alloc | apply pw_below_drewN | apply below_drew1))⟩); rintro e w113 ⟨rfl, hb⟩; refine ⟨_, rfl, ?_⟩; have n0_ := Aside0.mk (blk_below (g := gb245) (pk BK245) hb); have n1_ := Aside0.mk (below_step (by repeat (first | (with_reducible first | exact HB.out | apply below_alloc | apply pw_below_drewN | apply below_drew1 | refine below_set ?_ GE245.out) | exact HB.out)) hb); clear BK245; clear HB; have BK245 := n0_; have HB := n1_; clear n0_ n1_; (try clear hb); (try clear hb2); (try clear hk); (try clear hi); have hcz114_0 : w113.cell? ⟨gb245, 0, none⟩ = some (.slice A0_0 l0_0.length c0_0) := bc BK245 0; have hcz114_1 : w113.cell? ⟨gb245, 1, none⟩ = some (.slice A0_1 l0_1.length c0_1) := bc BK245 1; have hfz114_0 := blk_frozen BK245.out 0; have hfz114_1 := blk_frozen BK245.out 1) | ((with_reducible refine gate_callee (f := 10) rfl ?_); refine goesL_ (some 20) rfl rfl Tryd.func10 (by kernel_rfl) rfl #[.agg #[.slice A0_0 l0_0.length c0_0, .slice A0_1 l0_1.length c0_1]] rfl (by (try simp only [List.map_toArray, List.map_cons, List.map_nil]); first | done | rfl | (simp only [List.length_drop, List.length_take]; rfl)) ?_; (with_reducible refine (damperlaw5_Few.calls k _ _ l0_0 _ _ l0_1 false _ ?side1 ?side2 ?side3 ?side4 A10.out).mono ?_); (case side1 => repeat (first | exact (Kd.C_below HR0_0.out HB.out) | (with_reducible refine Kd.C_alloc ?_ _) | (with_reducible refine Kd.C_drewN ?_ _) | (with_reducible refine Kd.C_drew ?_))); (case side2 => exact HC0_0.out); (case side3 => repeat (first | exact (Kd.C_below HR0_1.out HB.out) | (with_reducible refine Kd.C_alloc ?_ _) | (with_reducible refine Kd.C_drewN ?_ _) | (with_reducible refine Kd.C_drew ?_))); (case side4 => exact HC0_1.out); rintro e w115 ⟨rfl, hb⟩; refine ⟨_, rfl, ?_⟩; have n0_ := Aside0.mk (blk_below (g := gb245) (pk BK245) hb); have n1_ := Aside0.mk (below_step (by repeat (first | (with_reducible first | exact HB.out | apply below_alloc | apply pw_below_drewN | apply below_drew1 | refine below_set ?_ GE245.out) | exact HB.out)) hb); clear BK245; clear HB; have BK245 := n0_; have HB := n1_; clear n0_ n1_; (try clear hb); (try clear hb2); (try clear hk); (try clear hi)))
      go_ret
      exact ⟨by first | rfl | (simp [errW_none, errW_some] <;> rfl) | (simp [*, errW_none, errW_some] <;> rfl), by repeat (first | (with_reducible first | exact HB.out | apply below_alloc | apply pw_below_drewN | apply below_drew1 | refine below_set ?_ GE245.out) | exact HB.out)⟩
  · replace c9 := Bool.eq_false_iff.mpr c9
    subst c9
    have H1 : (some false) = some r := by rw [if_neg (show ¬ (false = true) by decide)] at H; exact H
    clear H
    have H := H1
    clear H1
    exact absurd (Option.some.inj H) (by rw [hr0_.out]; decide)

def damperlaw5_TableRight.B32 (x : S32) : Prop := (x.f0.size ≤ maxLen) ∧ ((Lit.int .i64 x.f1).wf = true)
def damperlaw5_TableRight.B35 (x : S35) : Prop := (x.f0.size ≤ maxLen) ∧ (x.f1.size ≤ maxLen)
/-- THE ONE PURE STATEMENT of damperlaw5_TableRight: yours. -/
def damperlaw5_TableRight.Pure : Prop := ∀ (l0_0 : List (S32)) (l0_1 : List (S35)) (l1 : List Int) (l2 : List Int) (a3 : Int) (a4 : Int) (a5 : Int) (l6 : List Int), (l0_0.length ≤ maxLen ∧ ∀ y_ ∈ l0_0, damperlaw5_TableRight.B32 y_) → (l0_1.length ≤ maxLen ∧ ∀ y_ ∈ l0_1, damperlaw5_TableRight.B35 y_) → (l1.length ≤ maxLen ∧ ∀ y_ ∈ l1, (Lit.int .i64 y_).wf = true) → (l2.length ≤ maxLen ∧ ∀ y_ ∈ l2, (Lit.int .i64 y_).wf = true) → ((Lit.int .i64 a3).wf = true) → ((Lit.int .i64 a4).wf = true) → ((Lit.int .i64 a5).wf = true) → (l6.length ≤ maxLen ∧ ∀ y_ ∈ l6, (Lit.int .i64 y_).wf = true) → ∃ k, damperlaw5_TableRight.f k l0_0 l0_1 l1 l2 a3 a4 a5 l6 = some true
theorem damperlaw5_TableRight.walk (P : damperlaw5_TableRight.Pure) (A0_0 : Option Addr) (c0_0 : Nat) (l0_0 : List (S32)) (A0_1 : Option Addr) (c0_1 : Nat) (l0_1 : List (S35)) (A1 : Option Addr) (c1 : Nat) (l1 : List Int) (A2 : Option Addr) (c2 : Nat) (l2 : List Int) (a3 : Int) (a4 : Int) (a5 : Int) (A6 : Option Addr) (c6 : Nat) (l6 : List Int) (w : World) (hLd_ : LaidW w) (w0_0 : l0_0.length ≤ maxLen ∧ ∀ y_ ∈ l0_0, damperlaw5_TableRight.B32 y_) (w0_1 : l0_1.length ≤ maxLen ∧ ∀ y_ ∈ l0_1, damperlaw5_TableRight.B35 y_) (w1 : l1.length ≤ maxLen ∧ ∀ y_ ∈ l1, (Lit.int .i64 y_).wf = true) (w2 : l2.length ≤ maxLen ∧ ∀ y_ ∈ l2, (Lit.int .i64 y_).wf = true) (w3 : (Lit.int .i64 a3).wf = true) (w4 : (Lit.int .i64 a4).wf = true) (w5 : (Lit.int .i64 a5).wf = true) (w6 : l6.length ≤ maxLen ∧ ∀ y_ ∈ l6, (Lit.int .i64 y_).wf = true) (hr0_0 : Kd.C k32 w A0_0 l0_0.length l0_0) (hc0_0 : l0_0.length ≤ c0_0) (hr0_1 : Kd.C k35 w A0_1 l0_1.length l0_1) (hc0_1 : l0_1.length ≤ c0_1) (hr1 : Kd.C (Kd.int .i64) w A1 l1.length l1) (hc1 : l1.length ≤ c1) (hr2 : Kd.C (Kd.int .i64) w A2 l2.length l2) (hc2 : l2.length ≤ c2) (hr6 : Kd.C (Kd.int .i64) w A6 l6.length l6) (hc6 : l6.length ≤ c6) :
    Calls Tryd.prog 3 #[.agg #[.slice A0_0 l0_0.length c0_0, .slice A0_1 l0_1.length c0_1], .slice A1 l1.length c1, .slice A2 l2.length c2, .int .i64 a3, .int .i64 a4, .int .i64 a5, .slice A6 l6.length c6] w fun e w' => e = .returned (.bool true) ∧ Below w.heap.size w w' := by
  obtain ⟨k, h⟩ := P l0_0 l0_1 l1 l2 a3 a4 a5 l6 w0_0 w0_1 w1 w2 w3 w4 w5 w6
  refine (damperlaw5_TableRight.calls k A0_0 c0_0 l0_0 A0_1 c0_1 l0_1 A1 c1 l1 A2 c2 l2 a3 a4 a5 A6 c6 l6 true w ⟨hLd_⟩ hr0_0 hc0_0 hr0_1 hc0_1 hr1 hc1 hr2 hc2 hr6 hc6 ⟨rfl⟩ h).mono ?_
  rintro e w' ⟨rfl, hd⟩
  exact ⟨rfl, hd⟩

end Go.Proofs.YtckcimahclpdfaaDoor.Ma
