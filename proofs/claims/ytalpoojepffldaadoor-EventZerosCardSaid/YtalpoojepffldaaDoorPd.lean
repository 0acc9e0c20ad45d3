-- Written by a program of this session (wip/tools/pack.py) out of its printed parts. Not trusted: Lean checks it.
import Derived.Test.YtalpoojepffldaaDoorMax0
import Derived.Test.YtalpoojepffldaaDoorPa
import Derived.Test.YtalpoojepffldaaDoorPb
import Derived.Test.YtalpoojepffldaaDoorPc
namespace Go.Proofs.YtalpoojepffldaaDoor.Ma
open Go.RowKit Go.Proofs.YtalpoojepffldaaDoorW.PrintWords Go.Proofs.YtalpoojepffldaaDoorW.PrintLast Go.Proofs.YtalpoojepffldaaDoorW.PrintMore
attribute [local go_sem] max2_int min2_int max_two min_two max_three min_three max_four min_four   -- for this text's walks alone
set_option linter.unusedVariables false
set_option linter.unusedSimpArgs false

section
/-! ### damperlaw2_Route: function 28 -/
mutual
def damperlaw2_Route.j0 : Nat → List Int → Int → Int → ByteArray → ByteArray → Int → Option (ByteArray × ByteArray × (List (S39)) × Int)
  | 0, _, _, _, _, _, _ => none
  | k + 1, x1, x8, x9, x223000, x223001, x223003 => damperlaw2_Route.l0 k x1 x8 x9 0 x223000 x223001 ([] : List (S39)) x223003
def damperlaw2_Route.l0 : Nat → List Int → Int → Int → Int → ByteArray → ByteArray → List (S39) → Int → Option (ByteArray × ByteArray × (List (S39)) × Int)
  | 0, _, _, _, _, _, _, _, _ => none
  | k + 1, x1, x8, x9, x10, x223000, x223001, x223002, x223003 => if x10 < x9 then (if (wrap64 (x10 + 1)) < (x1.length : Int) then (if 0 ≤ (wrap64 (x10 + 1)) then (damperlaw2_Route.j2 k x1 x8 x9 x10 (rd x1 (wrap64 (x10 + 1))) x223000 x223001 x223002 x223003) else (none)) else (damperlaw2_Route.j2 k x1 x8 x9 x10 x10 x223000 x223001 x223002 x223003)) else (some (x223000, x223001, x223002, x223003))
def damperlaw2_Route.j2 : Nat → List Int → Int → Int → Int → Int → ByteArray → ByteArray → List (S39) → Int → Option (ByteArray × ByteArray × (List (S39)) × Int)
  | 0, _, _, _, _, _, _, _, _, _ => none
  | k + 1, x1, x8, x9, x10, x11, x223000, x223001, x223002, x223003 => if (wrap64 (x8 + 1)) = 0 then (none) else (if x10 = (wrap64 (x9 - 1)) then (damperlaw2_Route.j3 k x1 x8 x9 x10 x11 x223000 x223001 x223002 x223003 (⟨#[]⟩ : ByteArray) (⟨#[]⟩ : ByteArray) x8) else (damperlaw2_Route.j3 k x1 x8 x9 x10 x11 x223000 x223001 x223002 x223003 (⟨#[]⟩ : ByteArray) (⟨#[]⟩ : ByteArray) (wi x11 (wrap64 (x8 + 1)))))
def damperlaw2_Route.j3 : Nat → List Int → Int → Int → Int → Int → ByteArray → ByteArray → List (S39) → Int → ByteArray → ByteArray → Int → Option (ByteArray × ByteArray × (List (S39)) × Int)
  | 0, _, _, _, _, _, _, _, _, _, _, _, _ => none
  | k + 1, x1, x8, x9, x10, x11, x223000, x223001, x223002, x223003, x226000, x226001, x226002 => if (wi (wrap64 (Int.tdiv x11 101)) 3) > 0 then (if x223001.size + 1 ≤ 9223372036854775807 then ((some (([(wrap64 (49 + (wi (wrap64 (Int.tdiv x11 303)) 4))) % 256] : List Int) : List Int)).bind fun y226 => (if (x223001 ++ (⟨#[45]⟩ : ByteArray)).size + (strOfNums y226).size ≤ 9223372036854775807 then (damperlaw2_Route.j4 k x1 x8 x9 x10 x11 x223000 x223001 x223002 x223003 ((x223001 ++ (⟨#[45]⟩ : ByteArray)) ++ (strOfNums y226)) x226001 x226002) else (none))) else (none)) else (damperlaw2_Route.j4 k x1 x8 x9 x10 x11 x223000 x223001 x223002 x223003 x226000 x226001 x226002)
def damperlaw2_Route.j4 : Nat → List Int → Int → Int → Int → Int → ByteArray → ByteArray → List (S39) → Int → ByteArray → ByteArray → Int → Option (ByteArray × ByteArray × (List (S39)) × Int)
  | 0, _, _, _, _, _, _, _, _, _, _, _, _ => none
  | k + 1, x1, x8, x9, x10, x11, x223000, x223001, x223002, x223003, x226000, x226001, x226002 => if (wi (wrap64 (Int.tdiv x11 1212)) 3) = 0 then ((some (([(wrap64 (48 + x10)) % 256] : List Int) : List Int)).bind fun y229 => (if 1 + (strOfNums y229).size ≤ 9223372036854775807 then (if x223002.length < 3518437208883 then (damperlaw2_Route.l0 k x1 (wrap64 (x8 - x226002)) x9 (wrap64 (x10 + 1)) x223000 x223001 (x223002 ++ [(⟨x226000, (⟨#[116]⟩ : ByteArray) ++ (strOfNums y229), x226002⟩ : S39)]) x223003) else (none)) else (none))) else (if x223002.length < 3518437208883 then (damperlaw2_Route.l0 k x1 (wrap64 (x8 - x226002)) x9 (wrap64 (x10 + 1)) x223000 x223001 (x223002 ++ [(⟨x226000, x226001, x226002⟩ : S39)]) x223003) else (none))
end
def damperlaw2_Route.f (k : Nat) (a0 : Int) (l1 : List Int) (a2 : Int) : Option (ByteArray × ByteArray × (List (S39)) × Int) := (some (([(⟨#[102, 114, 111, 110, 116]⟩ : ByteArray), (⟨#[98, 97, 99, 107]⟩ : ByteArray), (⟨#[114, 45, 49]⟩ : ByteArray)] : List ByteArray) : List ByteArray)).bind fun y214 => (if 0 ≤ (wi a0 3) then (if (wi a0 3) < (y214.length : Int) then ((some (([(⟨#[119, 101, 98]⟩ : ByteArray), (⟨#[97, 112, 105]⟩ : ByteArray), (⟨#[97, 45, 98]⟩ : ByteArray)] : List ByteArray) : List ByteArray)).bind fun y218 => (if 0 ≤ (wi (wrap64 (Int.tdiv a0 3)) 3) then (if (wi (wrap64 (Int.tdiv a0 3)) 3) < (y218.length : Int) then (if (l1.length : Int) > 0 then (if 0 < (l1.length : Int) then (damperlaw2_Route.j0 k l1 100 (wrap64 (1 + (wi (rd l1 0) 6))) (rdOf ByteArray.empty y214 (wi a0 3)) (rdOf ByteArray.empty y218 (wi (wrap64 (Int.tdiv a0 3)) 3)) (wi a2 61)) else (none)) else (damperlaw2_Route.j0 k l1 100 1 (rdOf ByteArray.empty y214 (wi a0 3)) (rdOf ByteArray.empty y218 (wi (wrap64 (Int.tdiv a0 3)) 3)) (wi a2 61))) else (none)) else (none))) else (none)) else (none))
theorem damperlaw2_Route.mono_l : ∀ k, (∀ y0 y1 y2 y3 y4 y5, LeO (damperlaw2_Route.j0 k y0 y1 y2 y3 y4 y5) (damperlaw2_Route.j0 (k + 1) y0 y1 y2 y3 y4 y5)) ∧ (∀ y0 y1 y2 y3 y4 y5 y6 y7, LeO (damperlaw2_Route.l0 k y0 y1 y2 y3 y4 y5 y6 y7) (damperlaw2_Route.l0 (k + 1) y0 y1 y2 y3 y4 y5 y6 y7)) ∧ (∀ y0 y1 y2 y3 y4 y5 y6 y7 y8, LeO (damperlaw2_Route.j2 k y0 y1 y2 y3 y4 y5 y6 y7 y8) (damperlaw2_Route.j2 (k + 1) y0 y1 y2 y3 y4 y5 y6 y7 y8)) ∧ (∀ y0 y1 y2 y3 y4 y5 y6 y7 y8 y9 y10 y11, LeO (damperlaw2_Route.j3 k y0 y1 y2 y3 y4 y5 y6 y7 y8 y9 y10 y11) (damperlaw2_Route.j3 (k + 1) y0 y1 y2 y3 y4 y5 y6 y7 y8 y9 y10 y11)) ∧ (∀ y0 y1 y2 y3 y4 y5 y6 y7 y8 y9 y10 y11, LeO (damperlaw2_Route.j4 k y0 y1 y2 y3 y4 y5 y6 y7 y8 y9 y10 y11) (damperlaw2_Route.j4 (k + 1) y0 y1 y2 y3 y4 y5 y6 y7 y8 y9 y10 y11))
  | 0 => ⟨fun _ _ _ _ _ _ r h => by simp [damperlaw2_Route.j0] at h, fun _ _ _ _ _ _ _ _ r h => by simp [damperlaw2_Route.l0] at h, fun _ _ _ _ _ _ _ _ _ r h => by simp [damperlaw2_Route.j2] at h, fun _ _ _ _ _ _ _ _ _ _ _ _ r h => by simp [damperlaw2_Route.j3] at h, fun _ _ _ _ _ _ _ _ _ _ _ _ r h => by simp [damperlaw2_Route.j4] at h⟩
  | k + 1 => by
    obtain ⟨ih0, ih1, ih2, ih3, ih4⟩ := damperlaw2_Route.mono_l k
    refine ⟨?_, ?_, ?_, ?_, ?_⟩
    · intro y0 y1 y2 y3 y4 y5
      unfold damperlaw2_Route.j0
      repeat' first
      | (with_reducible exact ih0 _ _ _ _ _ _)
      | (with_reducible exact ih1 _ _ _ _ _ _ _ _)
      | (with_reducible exact ih2 _ _ _ _ _ _ _ _ _)
      | (with_reducible exact ih3 _ _ _ _ _ _ _ _ _ _ _ _)
      | (with_reducible exact ih4 _ _ _ _ _ _ _ _ _ _ _ _)
      | (with_reducible exact LeO.refl _)
      | (with_reducible exact LeO.none _)
      | (with_reducible refine LeO.ite ?_ ?_)
      | (with_reducible refine LeO.bind ?_ (fun _ => ?_))
      | exact ih0 _ _ _ _ _ _
      | exact ih1 _ _ _ _ _ _ _ _
      | exact ih2 _ _ _ _ _ _ _ _ _
      | exact ih3 _ _ _ _ _ _ _ _ _ _ _ _
      | exact ih4 _ _ _ _ _ _ _ _ _ _ _ _
      | exact LeO.none _
      | refine LeO.ite ?_ ?_
      | refine LeO.bind ?_ (fun _ => ?_)
    · intro y0 y1 y2 y3 y4 y5 y6 y7
      unfold damperlaw2_Route.l0
      repeat' first
      | (with_reducible exact ih0 _ _ _ _ _ _)
      | (with_reducible exact ih1 _ _ _ _ _ _ _ _)
      | (with_reducible exact ih2 _ _ _ _ _ _ _ _ _)
      | (with_reducible exact ih3 _ _ _ _ _ _ _ _ _ _ _ _)
      | (with_reducible exact ih4 _ _ _ _ _ _ _ _ _ _ _ _)
      | (with_reducible exact LeO.refl _)
      | (with_reducible exact LeO.none _)
      | (with_reducible refine LeO.ite ?_ ?_)
      | (with_reducible refine LeO.bind ?_ (fun _ => ?_))
      | exact ih0 _ _ _ _ _ _
      | exact ih1 _ _ _ _ _ _ _ _
      | exact ih2 _ _ _ _ _ _ _ _ _
      | exact ih3 _ _ _ _ _ _ _ _ _ _ _ _
      | exact ih4 _ _ _ _ _ _ _ _ _ _ _ _
      | exact LeO.none _
      | refine LeO.ite ?_ ?_
      | refine LeO.bind ?_ (fun _ => ?_)
    · intro y0 y1 y2 y3 y4 y5 y6 y7 y8
      unfold damperlaw2_Route.j2
      repeat' first
      | (with_reducible exact ih0 _ _ _ _ _ _)
      | (with_reducible exact ih1 _ _ _ _ _ _ _ _)
      | (with_reducible exact ih2 _ _ _ _ _ _ _ _ _)
      | (with_reducible exact ih3 _ _ _ _ _ _ _ _ _ _ _ _)
      | (with_reducible exact ih4 _ _ _ _ _ _ _ _ _ _ _ _)
      | (with_reducible exact LeO.refl _)
      | (with_reducible exact LeO.none _)
      | (with_reducible refine LeO.ite ?_ ?_)
      | (with_reducible refine LeO.bind ?_ (fun _ => ?_))
      | exact ih0 _ _ _ _ _ _
      | exact ih1 _ _ _ _ _ _ _ _
      | exact ih2 _ _ _ _ _ _ _ _ _
      | exact ih3 _ _ _ _ _ _ _ _ _ _ _ _
      | exact ih4 _ _ _ _ _ _ _ _ _ _ _ _
      | exact LeO.none _
      | refine LeO.ite ?_ ?_
      | refine LeO.bind ?_ (fun _ => ?_)
    · intro y0 y1 y2 y3 y4 y5 y6 y7 y8 y9 y10 y11
      unfold damperlaw2_Route.j3
      repeat' first
      | (with_reducible exact ih0 _ _ _ _ _ _)
      | (with_reducible exact ih1 _ _ _ _ _ _ _ _)
      | (with_reducible exact ih2 _ _ _ _ _ _ _ _ _)
      | (with_reducible exact ih3 _ _ _ _ _ _ _ _ _ _ _ _)
      | (with_reducible exact ih4 _ _ _ _ _ _ _ _ _ _ _ _)
      | (with_reducible exact LeO.refl _)
      | (with_reducible exact LeO.none _)
      | (with_reducible refine LeO.ite ?_ ?_)
      | (with_reducible refine LeO.bind ?_ (fun _ => ?_))
      | exact ih0 _ _ _ _ _ _
      | exact ih1 _ _ _ _ _ _ _ _
      | exact ih2 _ _ _ _ _ _ _ _ _
      | exact ih3 _ _ _ _ _ _ _ _ _ _ _ _
      | exact ih4 _ _ _ _ _ _ _ _ _ _ _ _
      | exact LeO.none _
      | refine LeO.ite ?_ ?_
      | refine LeO.bind ?_ (fun _ => ?_)
    · intro y0 y1 y2 y3 y4 y5 y6 y7 y8 y9 y10 y11
      unfold damperlaw2_Route.j4
      repeat' first
      | (with_reducible exact ih0 _ _ _ _ _ _)
      | (with_reducible exact ih1 _ _ _ _ _ _ _ _)
      | (with_reducible exact ih2 _ _ _ _ _ _ _ _ _)
      | (with_reducible exact ih3 _ _ _ _ _ _ _ _ _ _ _ _)
      | (with_reducible exact ih4 _ _ _ _ _ _ _ _ _ _ _ _)
      | (with_reducible exact LeO.refl _)
      | (with_reducible exact LeO.none _)
      | (with_reducible refine LeO.ite ?_ ?_)
      | (with_reducible refine LeO.bind ?_ (fun _ => ?_))
      | exact ih0 _ _ _ _ _ _
      | exact ih1 _ _ _ _ _ _ _ _
      | exact ih2 _ _ _ _ _ _ _ _ _
      | exact ih3 _ _ _ _ _ _ _ _ _ _ _ _
      | exact ih4 _ _ _ _ _ _ _ _ _ _ _ _
      | exact LeO.none _
      | refine LeO.ite ?_ ?_
      | refine LeO.bind ?_ (fun _ => ?_)
theorem damperlaw2_Route.mono : ∀ a0 a1 a2 k, LeO (damperlaw2_Route.f k a0 a1 a2) (damperlaw2_Route.f (k + 1) a0 a1 a2) := by
  intro a0 a1 a2 k
  obtain ⟨ih0, ih1, ih2, ih3, ih4⟩ := damperlaw2_Route.mono_l k
  unfold damperlaw2_Route.f
  repeat' first
      | (with_reducible exact ih0 _ _ _ _ _ _)
      | (with_reducible exact ih1 _ _ _ _ _ _ _ _)
      | (with_reducible exact ih2 _ _ _ _ _ _ _ _ _)
      | (with_reducible exact ih3 _ _ _ _ _ _ _ _ _ _ _ _)
      | (with_reducible exact ih4 _ _ _ _ _ _ _ _ _ _ _ _)
      | (with_reducible exact LeO.refl _)
      | (with_reducible exact LeO.none _)
      | (with_reducible refine LeO.ite ?_ ?_)
      | (with_reducible refine LeO.bind ?_ (fun _ => ?_))
      | exact ih0 _ _ _ _ _ _
      | exact ih1 _ _ _ _ _ _ _ _
      | exact ih2 _ _ _ _ _ _ _ _ _
      | exact ih3 _ _ _ _ _ _ _ _ _ _ _ _
      | exact ih4 _ _ _ _ _ _ _ _ _ _ _ _
      | exact LeO.none _
      | refine LeO.ite ?_ ?_
      | refine LeO.bind ?_ (fun _ => ?_)
def damperlaw2_Route.T1 : Bool × List (List Nat × List Nat) := (true, [([], []), ([], []), ([1], [1]), ([0, 2], [0, 2]), ([3], [3]), ([], []), ([], []), ([6], [6]), ([7, 2], [7]), ([5, 8], [5, 8]), ([9], [9]), ([], []), ([11, 8], [11]), ([4, 10, 12], [4, 10, 12]), ([], []), ([14, 13, 12, 0, 1, 2, 3, 4, 5, 6, 7, 8, 9, 10, 11, 12, 13, 14], [13, 14])])
def damperlaw2_Route.B1 : List Nat := [0, 0, 2, 7, 15, 0, 0, 64, 198, 486, 998, 0, 2502, 8191, 0, 32767]
theorem damperlaw2_Route.tab1 : rtab .any (opsOf Tryd.f28 1) = damperlaw2_Route.T1 := by kernel_rfl
theorem damperlaw2_Route.bits1 : waitsOk damperlaw2_Route.T1.2 damperlaw2_Route.B1 = true := by kernel_rfl
def damperlaw2_Route.T16 : Bool × List (List Nat × List Nat) := (true, [([], []), ([0], [0]), ([1], [1]), ([], []), ([3], [3]), ([4], [4]), ([5], [5]), ([6], [6]), ([7], [7]), ([8], [8]), ([2, 9], [2, 9]), ([0, 1, 2, 3, 4, 5, 6, 7, 8, 9, 10], []), ([11, 10, 5, 0, 1, 2, 3, 4, 5, 6, 7, 8, 9, 10], [10, 11])])
def damperlaw2_Route.B16 : List Nat := [0, 1, 3, 0, 8, 24, 56, 120, 248, 504, 1023, 2047, 4095]
theorem damperlaw2_Route.tab16 : rtab .any (opsOf Tryd.f28 16) = damperlaw2_Route.T16 := by kernel_rfl
theorem damperlaw2_Route.bits16 : waitsOk damperlaw2_Route.T16.2 damperlaw2_Route.B16 = true := by kernel_rfl
set_option maxHeartbeats 8000000 in
set_option maxRecDepth 100000 in
theorem damperlaw2_Route.calls (k : Nat) (a0 : Int) (A1 : Option Addr) (c1 : Nat) (l1 : List Int) (a2 : Int) (r1 : ByteArray) (r2 : ByteArray) (r3 : List (S39)) (r4 : Int) (w : World) (hr1 : Kd.C (Kd.int .i64) w A1 l1.length l1) (hc1 : l1.length ≤ c1) (h : damperlaw2_Route.f k a0 l1 a2 = some (r1, r2, r3, r4)) :
    Calls Tryd.prog 28 #[.int .i64 a0, .slice A1 l1.length c1, .int .i64 a2] w fun e w' => ∃ v2_ : Value, e = .returned (.agg #[.string r1, .string r2, v2_, .int .i64 r4]) ∧ Kd.R k39 39 w' w.heap.size (fun _ => True) v2_ r3 ∧ Below w.heap.size w w' := by
  have hu26 := Tryd.underlying26
  have hu39 := Tryd.underlying39
  have HR1 := Aside0.mk hr1
  have HC1 := Aside0.mk hc1
  clear hr1 hc1
  have HB := Aside0.mk (Below.refl w.heap.size w)
  have H : ((some (([(⟨#[102, 114, 111, 110, 116]⟩ : ByteArray), (⟨#[98, 97, 99, 107]⟩ : ByteArray), (⟨#[114, 45, 49]⟩ : ByteArray)] : List ByteArray) : List ByteArray)).bind fun y214 => (if 0 ≤ (wi a0 3) then (if (wi a0 3) < (y214.length : Int) then ((some (([(⟨#[119, 101, 98]⟩ : ByteArray), (⟨#[97, 112, 105]⟩ : ByteArray), (⟨#[97, 45, 98]⟩ : ByteArray)] : List ByteArray) : List ByteArray)).bind fun y218 => (if 0 ≤ (wi (wrap64 (Int.tdiv a0 3)) 3) then (if (wi (wrap64 (Int.tdiv a0 3)) 3) < (y218.length : Int) then (if (l1.length : Int) > 0 then (if 0 < (l1.length : Int) then (damperlaw2_Route.j0 k l1 100 (wrap64 (1 + (wi (rd l1 0) 6))) (rdOf ByteArray.empty y214 (wi a0 3)) (rdOf ByteArray.empty y218 (wi (wrap64 (Int.tdiv a0 3)) 3)) (wi a2 61)) else (none)) else (damperlaw2_Route.j0 k l1 100 1 (rdOf ByteArray.empty y214 (wi a0 3)) (rdOf ByteArray.empty y218 (wi (wrap64 (Int.tdiv a0 3)) 3)) (wi a2 61))) else (none)) else (none))) else (none)) else (none))) = some (r1, r2, r3, r4) := h
  clear h
  obtain ⟨y214, hy214⟩ : ∃ y_ : List ByteArray, y_ = (([(⟨#[102, 114, 111, 110, 116]⟩ : ByteArray), (⟨#[98, 97, 99, 107]⟩ : ByteArray), (⟨#[114, 45, 49]⟩ : ByteArray)] : List ByteArray)) := ⟨_, rfl⟩
  replace H : (if 0 ≤ (wi a0 3) then (if (wi a0 3) < (y214.length : Int) then ((some (([(⟨#[119, 101, 98]⟩ : ByteArray), (⟨#[97, 112, 105]⟩ : ByteArray), (⟨#[97, 45, 98]⟩ : ByteArray)] : List ByteArray) : List ByteArray)).bind fun y218 => (if 0 ≤ (wi (wrap64 (Int.tdiv a0 3)) 3) then (if (wi (wrap64 (Int.tdiv a0 3)) 3) < (y218.length : Int) then (if (l1.length : Int) > 0 then (if 0 < (l1.length : Int) then (damperlaw2_Route.j0 k l1 100 (wrap64 (1 + (wi (rd l1 0) 6))) (rdOf ByteArray.empty y214 (wi a0 3)) (rdOf ByteArray.empty y218 (wi (wrap64 (Int.tdiv a0 3)) 3)) (wi a2 61)) else (none)) else (damperlaw2_Route.j0 k l1 100 1 (rdOf ByteArray.empty y214 (wi a0 3)) (rdOf ByteArray.empty y218 (wi (wrap64 (Int.tdiv a0 3)) 3)) (wi a2 61))) else (none)) else (none))) else (none)) else (none)) = some (r1, r2, r3, r4) := by first | (rw [hy214]; with_reducible exact H) | (have H2_ := (Option.bind_some _ _).symm.trans H; rw [hy214]; with_reducible exact H2_) | (have H2_ := (Option.bind_some _ _).symm.trans H; with_reducible exact H2_) | with_reducible exact H | (rw [hy214]; exact H) | exact H
  have Ny214 := Aside0.mk hy214
  clear hy214
  obtain ⟨ji4, hji4⟩ : ∃ j_ : Int, (wi a0 3) = j_ := ⟨_, rfl⟩
  replace H : (if 0 ≤ (ji4) then (if (ji4) < (y214.length : Int) then ((some (([(⟨#[119, 101, 98]⟩ : ByteArray), (⟨#[97, 112, 105]⟩ : ByteArray), (⟨#[97, 45, 98]⟩ : ByteArray)] : List ByteArray) : List ByteArray)).bind fun y218 => (if 0 ≤ (wi (wrap64 (Int.tdiv a0 3)) 3) then (if (wi (wrap64 (Int.tdiv a0 3)) 3) < (y218.length : Int) then (if (l1.length : Int) > 0 then (if 0 < (l1.length : Int) then (damperlaw2_Route.j0 k l1 100 (wrap64 (1 + (wi (rd l1 0) 6))) (rdOf ByteArray.empty y214 (ji4)) (rdOf ByteArray.empty y218 (wi (wrap64 (Int.tdiv a0 3)) 3)) (wi a2 61)) else (none)) else (damperlaw2_Route.j0 k l1 100 1 (rdOf ByteArray.empty y214 (ji4)) (rdOf ByteArray.empty y218 (wi (wrap64 (Int.tdiv a0 3)) 3)) (wi a2 61))) else (none)) else (none))) else (none)) else (none)) = some (r1, r2, r3, r4) := by first | (rw [hji4] at H; exact H) | (simp only [hji4] at H ⊢; exact H)
  by_cases c5 : 0 ≤ (ji4)
  rotate_left
  · rw [if_neg c5] at H
    exact absurd H (by simp)
  rw [if_pos c5] at H
  have c5b0 : decide (0 ≤ (ji4)) = true := decide_eq_true c5
  clear c5
  by_cases c6 : (ji4) < (y214.length : Int)
  rotate_left
  · rw [if_neg c6] at H
    exact absurd H (by simp)
  rw [if_pos c6] at H
  have c6b0 : decide ((ji4) < (y214.length : Int)) = true := decide_eq_true c6
  clear c6
  obtain ⟨y218, hy218⟩ : ∃ y_ : List ByteArray, y_ = (([(⟨#[119, 101, 98]⟩ : ByteArray), (⟨#[97, 112, 105]⟩ : ByteArray), (⟨#[97, 45, 98]⟩ : ByteArray)] : List ByteArray)) := ⟨_, rfl⟩
  replace H : (if 0 ≤ (wi (wrap64 (Int.tdiv a0 3)) 3) then (if (wi (wrap64 (Int.tdiv a0 3)) 3) < (y218.length : Int) then (if (l1.length : Int) > 0 then (if 0 < (l1.length : Int) then (damperlaw2_Route.j0 k l1 100 (wrap64 (1 + (wi (rd l1 0) 6))) (rdOf ByteArray.empty y214 (ji4)) (rdOf ByteArray.empty y218 (wi (wrap64 (Int.tdiv a0 3)) 3)) (wi a2 61)) else (none)) else (damperlaw2_Route.j0 k l1 100 1 (rdOf ByteArray.empty y214 (ji4)) (rdOf ByteArray.empty y218 (wi (wrap64 (Int.tdiv a0 3)) 3)) (wi a2 61))) else (none)) else (none)) = some (r1, r2, r3, r4) := by first | (rw [hy218]; with_reducible exact H) | (have H2_ := (Option.bind_some _ _).symm.trans H; rw [hy218]; with_reducible exact H2_) | (have H2_ := (Option.bind_some _ _).symm.trans H; with_reducible exact H2_) | with_reducible exact H | (rw [hy218]; exact H) | exact H
  have Ny218 := Aside0.mk hy218
  clear hy218
  obtain ⟨ji7, hji7⟩ : ∃ j_ : Int, (wi (wrap64 (Int.tdiv a0 3)) 3) = j_ := ⟨_, rfl⟩
  replace H : (if 0 ≤ (ji7) then (if (ji7) < (y218.length : Int) then (if (l1.length : Int) > 0 then (if 0 < (l1.length : Int) then (damperlaw2_Route.j0 k l1 100 (wrap64 (1 + (wi (rd l1 0) 6))) (rdOf ByteArray.empty y214 (ji4)) (rdOf ByteArray.empty y218 (ji7)) (wi a2 61)) else (none)) else (damperlaw2_Route.j0 k l1 100 1 (rdOf ByteArray.empty y214 (ji4)) (rdOf ByteArray.empty y218 (ji7)) (wi a2 61))) else (none)) else (none)) = some (r1, r2, r3, r4) := by first | (rw [hji7] at H; exact H) | (simp only [hji7] at H ⊢; exact H)
  by_cases c8 : 0 ≤ (ji7)
  rotate_left
  · rw [if_neg c8] at H
    exact absurd H (by simp)
  rw [if_pos c8] at H
  have c8b0 : decide (0 ≤ (ji7)) = true := decide_eq_true c8
  clear c8
  by_cases c9 : (ji7) < (y218.length : Int)
  rotate_left
  · rw [if_neg c9] at H
    exact absurd H (by simp)
  rw [if_pos c9] at H
  have c9b0 : decide ((ji7) < (y218.length : Int)) = true := decide_eq_true c9
  clear c9
  obtain ⟨ji10, hji10⟩ : ∃ j_ : Int, (wi a2 61) = j_ := ⟨_, rfl⟩
  replace H : (if (l1.length : Int) > 0 then (if 0 < (l1.length : Int) then (damperlaw2_Route.j0 k l1 100 (wrap64 (1 + (wi (rd l1 0) 6))) (rdOf ByteArray.empty y214 (ji4)) (rdOf ByteArray.empty y218 (ji7)) ji10) else (none)) else (damperlaw2_Route.j0 k l1 100 1 (rdOf ByteArray.empty y214 (ji4)) (rdOf ByteArray.empty y218 (ji7)) ji10)) = some (r1, r2, r3, r4) := by first | (rw [hji10] at H; exact H) | (simp only [hji10] at H ⊢; exact H)
  have HC11 := Aside0.mk H
  clear H
  go_enter Tryd.func28, Tryd.ntmps28
  try go_wp2_with (first | (go_at_call 67; refine (damperlaw2_within.keep _ _ rfl (by first | decide | assumption | exact wi_ne (by assumption) | exact wi_ne' (by assumption) | omega) _).mono ?_; rintro e w' ⟨rfl, rfl⟩) | ((with_reducible refine gate_dst (N := 6) rfl ?_); refine box_event ?hg (N := 6) ?hd (cs := #[.string (⟨#[]⟩ : ByteArray), .string (⟨#[]⟩ : ByteArray), .slice none 0 0, .int .i64 0]) (t := 26) ?hr ?_; (case hd => rfl); (case hg => rfl); (case hr => first | (go_simp; done) | (go_simp; rfl)); intro gb213 hg w12 hbox hb; have n0_ := Aside0.mk (below_step (by repeat (first | (with_reducible first | exact HB.out | apply below_alloc | apply pw_below_drewN | apply below_drew1) | exact HB.out)) hb); have n1_ := Aside0.mk (hbox); have n2_ := Aside0.mk ((by rw [hg]; exact (below_size (by repeat (first | (with_reducible first | exact HB.out | apply below_alloc | apply pw_below_drewN | apply below_drew1) | exact HB.out))) : w.heap.size ≤ gb213)); have n3_ := Aside0.mk ((by rw [hg]; exact (below_size (by repeat (first | (with_reducible first | exact HB.out | apply below_alloc | apply pw_below_drewN | apply below_drew1) | exact HB.out))) : w.heap.size ≤ gb213)); clear HB; have HB := n0_; have BK213 := n1_; have GW213 := n2_; have GE213 := n3_; clear n0_ n1_ n2_ n3_; clear hb hbox hg))
  have pi217 : (0 ≤ ((ji4) : Int)) = True := eq_true (of_decide_eq_true (by first | (with_reducible assumption) | assumption))
  have qi217 : ((ji4) < (y214.length : Int)) = True := eq_true (of_decide_eq_true (by first | (with_reducible assumption) | assumption))
  have pi221 : (0 ≤ ((ji7) : Int)) = True := eq_true (of_decide_eq_true (by first | (with_reducible assumption) | assumption))
  have qi221 : ((ji7) < (y218.length : Int)) = True := eq_true (of_decide_eq_true (by first | (with_reducible assumption) | assumption))
  replace BK213 := Aside0.mk (blk_drew BK213.out)
  replace HB := Aside0.mk (below_drew1 HB.out)
  refine start_ (n := 16) (S := fun w' => True) (ds := []) #[false, false, false, false, false, false, false, false, false, false, false, false, false, false, false, false] (by kernel_rfl) rfl rfl trivial (fun hHeld => ?_); refine with_tabW damperlaw2_Route.tab1 damperlaw2_Route.bits1 (fun HT_ HW_ => ?_)
  generalize w12.drew = w13 at BK213 HB hHeld ⊢
  refine pure_ (i := 1) (N := some 14) (v := ?_) (a' := ?_) #[false, true, false, false, false, false, false, false, false, false, false, false, false, false, false, false] rfl rfl (any_of HT_.out (by kernel_rfl)) (fun _ _ _ h => h) (Or.inl ⟨by rfl, ?_⟩) ?_ ?_
  rotate_left
  · intro w'
    go_simp
    with_reducible rfl
  rotate_left
  · simp only [Act.put, List.setIfInBounds_toArray, List.set_cons_zero, List.set_cons_succ, i64_w, i32_w]
    rfl
  refine callp_ (i := 2) (N := some 15) (a' := ?a1_) #[false, true, true, false, false, false, false, false, false, false, false, false, false, false, false, false] rfl rfl (by kernel_rfl) (fun _ _ _ h => h) (by rfl) Tryd.func67 (by kernel_rfl) rfl rfl (by (try simp only [List.map_toArray, List.map_cons, List.map_nil]); rfl) (damperlaw2_within.same _ _ (r := ?jj1_) ?hj1_ (by first | decide | assumption | exact wi_ne (by assumption) | exact wi_ne' (by assumption) | omega)) ?ha1_ ?h1_
  (case hj1_ => (try simp only [i64_w, i32_w]); first | assumption | (go_simp; rfl))
  (case ha1_ => simp only [Act.put, List.setIfInBounds_toArray, List.set_cons_zero, List.set_cons_succ, i64_w, i32_w]; rfl)
  refine pure_ (i := 6) (N := some 19) (v := ?_) (a' := ?_) #[false, true, true, false, false, false, true, false, false, false, false, false, false, false, false, false] rfl rfl (any_of HT_.out (by kernel_rfl)) (fun _ _ _ h => h) (Or.inl ⟨by rfl, ?_⟩) ?_ ?_
  rotate_left
  · intro w'
    go_simp
    with_reducible rfl
  rotate_left
  · simp only [Act.put, List.setIfInBounds_toArray, List.set_cons_zero, List.set_cons_succ, i64_w, i32_w]
    rfl
  refine pure_ (i := 7) (N := some 20) (v := ?_) (a' := ?_) #[false, true, true, false, false, false, true, true, false, false, false, false, false, false, false, false] rfl rfl (any_of HT_.out (by kernel_rfl)) (fun _ _ _ h => h) (Or.inl ⟨by rfl, ?_⟩) ?_ ?_
  rotate_left
  · intro w'
    go_simp
    with_reducible rfl
  rotate_left
  · simp only [Act.put, List.setIfInBounds_toArray, List.set_cons_zero, List.set_cons_succ, i64_w, i32_w]
    rfl
  refine callp_ (i := 8) (N := some 21) (a' := ?a2_) #[false, true, true, false, false, false, true, true, true, false, false, false, false, false, false, false] rfl rfl (by kernel_rfl) (fun _ _ _ h => h) (by rfl) Tryd.func67 (by kernel_rfl) rfl rfl (by (try simp only [List.map_toArray, List.map_cons, List.map_nil]); rfl) (damperlaw2_within.same _ _ (r := ?jj2_) ?hj2_ (by first | decide | assumption | exact wi_ne (by assumption) | exact wi_ne' (by assumption) | omega)) ?ha2_ ?h2_
  (case hj2_ => (try simp only [i64_w, i32_w]); first | assumption | (go_simp; rfl))
  (case ha2_ => simp only [Act.put, List.setIfInBounds_toArray, List.set_cons_zero, List.set_cons_succ, i64_w, i32_w]; rfl)
  refine pure_ (i := 11) (N := some 24) (v := ?_) (a' := ?_) #[false, true, true, false, false, false, true, true, true, false, false, true, false, false, false, false] rfl rfl (any_of HT_.out (by kernel_rfl)) (fun _ _ _ h => h) (Or.inl ⟨by rfl, ?_⟩) ?_ ?_
  rotate_left
  · intro w'
    go_simp
    with_reducible rfl
  rotate_left
  · simp only [Act.put, List.setIfInBounds_toArray, List.set_cons_zero, List.set_cons_succ, i64_w, i32_w]
    rfl
  refine callp_ (i := 12) (N := some 25) (a' := ?a3_) #[false, true, true, false, false, false, true, true, true, false, false, true, true, false, false, false] rfl rfl (by kernel_rfl) (fun _ _ _ h => h) (by rfl) Tryd.func67 (by kernel_rfl) rfl rfl (by (try simp only [List.map_toArray, List.map_cons, List.map_nil]); rfl) (damperlaw2_within.same _ _ (r := ?jj3_) ?hj3_ (by first | decide | assumption | exact wi_ne (by assumption) | exact wi_ne' (by assumption) | omega)) ?ha3_ ?h3_
  (case hj3_ => (try simp only [i64_w, i32_w]); first | assumption | (go_simp; rfl))
  (case ha3_ => simp only [Act.put, List.setIfInBounds_toArray, List.set_cons_zero, List.set_cons_succ, i64_w, i32_w]; rfl)
  refine join_ (σ := Value × Addr × Value × Addr × Nat) 1 #[true, true, true, true, true, true, true, true, true, true, true, true, true, true, true, false] (fun s_ => [(13, s_.1), (17, .string (rdOf ByteArray.empty y214 (ji4))), (18, s_.2.2.1), (23, .string (rdOf ByteArray.empty y218 (ji7))), (7, .pointer (some ⟨s_.2.2.2.2, 0, none⟩)), (16, .pointer (some (s_.2.1.add ((ji4)).toNat))), (22, .pointer (some (s_.2.2.2.1.add ((ji7)).toNat))), (26, .agg #[.string (rdOf ByteArray.empty y214 (ji4)), .string (rdOf ByteArray.empty y218 (ji7)), .slice none 0 0, .int .i64 ji10])]) (fun s_ w' => (Kd.R Kd.string 9 w' w.heap.size (fun k_ => some k_ ≠ (s_.2.2.1 : Value).ownBlock) s_.1 y214) ∧ (Kd.R Kd.string 9 w' w.heap.size (fun k_ => some k_ ≠ (s_.1 : Value).ownBlock) s_.2.2.1 y218) ∧ (∃ c_, (s_.1 : Value) = .slice (some s_.2.1) y214.length c_) ∧ (∃ c_, (s_.2.2.1 : Value) = .slice (some s_.2.2.2.1) y218.length c_) ∧ (w'.heap[gb213]? = some (.cells #[.string (⟨#[]⟩ : ByteArray), .string (⟨#[]⟩ : ByteArray), .slice none 0 0, .int .i64 0] 26 (0, 0))) ∧ (w'.heap[s_.2.2.2.2]? = some (.cells #[.string (⟨#[]⟩ : ByteArray), .string (⟨#[]⟩ : ByteArray), .slice none 0 0, .int .i64 0] 26 (0, 0))) ∧ (w.heap.size ≤ s_.2.2.2.2) ∧ (w.heap.size ≤ s_.2.2.2.2) ∧ (gb213 ≠ s_.2.2.2.2) ∧ (s_.2.2.2.2 ≠ gb213) ∧ (Below w.heap.size w w')) ?_ ?_
  · rintro ⟨v215, adz_v215, v219, adz_v219, gb222⟩ w21 ⟨h0_, h1_, h2_, h3_, h4_, h5_, h6_, h7_, h8_, h9_, h10_⟩
    have HO216 : Aside0 (Kd.R Kd.string 9 w21 w.heap.size (fun k_ => some k_ ≠ (v219 : Value).ownBlock) v215 y214) := ⟨h0_⟩
    have HO220 : Aside0 (Kd.R Kd.string 9 w21 w.heap.size (fun k_ => some k_ ≠ (v215 : Value).ownBlock) v219 y218) := ⟨h1_⟩
    have HA_HO216 : Aside0 (∃ c_, (v215 : Value) = .slice (some adz_v215) y214.length c_) := ⟨h2_⟩
    have HA_HO220 : Aside0 (∃ c_, (v219 : Value) = .slice (some adz_v219) y218.length c_) := ⟨h3_⟩
    have BK222 : Aside0 (w21.heap[gb222]? = some (.cells #[.string (⟨#[]⟩ : ByteArray), .string (⟨#[]⟩ : ByteArray), .slice none 0 0, .int .i64 0] 26 (0, 0))) := ⟨h5_⟩
    have GW222 : Aside0 (w.heap.size ≤ gb222) := ⟨h6_⟩
    have GE222 : Aside0 (w.heap.size ≤ gb222) := ⟨h7_⟩
    have NB213_222 : Aside0 (gb213 ≠ gb222) := ⟨h8_⟩
    have NB222_213 : Aside0 (gb222 ≠ gb213) := ⟨h9_⟩
    replace BK213 := Aside0.mk h4_
    replace HB : Aside0 (Below w.heap.size w w21) := ⟨h10_⟩
    clear h0_ h1_ h2_ h3_ h4_ h5_ h6_ h7_ h8_ h9_ h10_
    have hHeld := trivial
    obtain ⟨co22, eo22⟩ := HA_HO216.out
    clear HA_HO216
    subst eo22
    obtain ⟨co23, eo23⟩ := HA_HO220.out
    clear HA_HO220
    subst eo23
    refine norm_ (a' := ?_) ?_ ?_
    rotate_left
    · simp only [putAll, Act.put, List.setIfInBounds_toArray, List.set_cons_zero, List.set_cons_succ]
      rfl
    refine one_ (i := 15) (N := none) #[true, true, true, true, true, true, true, true, true, true, true, true, true, true, true, true] rfl rfl (one_of HT_.out (by kernel_rfl)) (by decide) (fun K hK => ?_)
    have hs24 : w21.cell? ⟨gb222, 0, none⟩ = some (.string (⟨#[]⟩ : ByteArray)) := bc BK222 0
    have hfs24 := blk_frozen BK222.out 0
    have hns24_0 := NB213_222.out
    have hms24_0 := NB222_213.out
    have hs25 : w21.cell? ⟨gb222, 1, none⟩ = some (.string (⟨#[]⟩ : ByteArray)) := bc BK222 1
    have hfs25 := blk_frozen BK222.out 1
    have hs26 : w21.cell? ⟨gb222, 2, none⟩ = some (.slice none 0 0) := bc BK222 2
    have hfs26 := blk_frozen BK222.out 2
    have hs27 : w21.cell? ⟨gb222, 3, none⟩ = some (.int .i64 0) := bc BK222 3
    have hfs27 := blk_frozen BK222.out 3
    with_reducible_and_instances refine skip_ (w1 := ?_) ?hw_ ?hN_ ?_ ?_
    (case hw_ => rfl)
    (case hN_ => rfl)
    rotate_left
    · go_simp
      rfl
    refine hK.out _ _ trivial (fun hHeld => ?_)
    clear hK K
    refine done_ (done_of HT_.out (by kernel_rfl)) ?_
    go_upto_if 29 with (first | (go_at_call 67; refine (damperlaw2_within.keep _ _ rfl (by first | decide | assumption | exact wi_ne (by assumption) | exact wi_ne' (by assumption) | omega) _).mono ?_; rintro e w' ⟨rfl, rfl⟩))
    go_cut [9] (fun v9 wc => ∃ (kq : Nat) (x9_10 : Int), v9 = .int .i64 x9_10 ∧ Aside0 (damperlaw2_Route.j0 kq l1 100 x9_10 (rdOf ByteArray.empty y214 (ji4)) (rdOf ByteArray.empty y218 (ji7)) ji10 = some (r1, r2, r3, r4)) ∧ Aside0 (kq ≤ k) ∧ Aside0 (wc.heap[gb213]? = some (.cells #[.string (⟨#[]⟩ : ByteArray), .string (⟨#[]⟩ : ByteArray), (.slice none 0 0), .int .i64 0] 26 (0, 0))) ∧ Aside0 (wc.heap[gb222]? = some (.cells #[.string (rdOf ByteArray.empty y214 (ji4)), .string (rdOf ByteArray.empty y218 (ji7)), (.slice none 0 0), .int .i64 ji10] 26 (0, 0))) ∧ Aside0 (Below w.heap.size w wc))
    case first =>
      have H := HC11.out
      clear HC11
      by_cases c28 : (l1.length : Int) > 0
      · rw [if_pos c28] at H
        have c28b0 : decide (0 < (l1.length : Int)) = true := decide_eq_true c28
        have c28b1 : decide (0 < l1.length) = true := decide_eq_true (by omega)
        clear c28
        (first | rw [c28b0] | (simp only [i64_w, i32_w]; rw [c28b0]) | rw [c28b1] | skip)
        by_cases c29 : 0 < (l1.length : Int)
        rotate_left
        · rw [if_neg c29] at H
          exact absurd H (by simp)
        rw [if_pos c29] at H
        have c29b0 : decide (0 < (l1.length : Int)) = true := decide_eq_true c29
        have c29b1 : decide (0 < l1.length) = true := decide_eq_true (by omega)
        clear c29
        obtain ⟨ji30, hji30⟩ : ∃ j_ : Int, (wi (rd l1 0) 6) = j_ := ⟨_, rfl⟩
        replace H : (damperlaw2_Route.j0 k l1 100 (wrap64 (1 + (ji30))) (rdOf ByteArray.empty y214 (ji4)) (rdOf ByteArray.empty y218 (ji7)) ji10) = some (r1, r2, r3, r4) := by first | (rw [hji30] at H; exact H) | (simp only [hji30] at H ⊢; exact H)
        have H' := Aside0.mk H
        clear H
        have p223 : 0 ≤ (0 : Int) := (by omega)
        have q223 : 0 < (l1.length : Int) := of_decide_eq_true (by first | (with_reducible assumption) | assumption)
        obtain ⟨ad223, e223, hx223_0⟩ := Kd.at_int HR1.out 0 p223 q223
        cases e223
        have qi223 : (0 < l1.length) = True := eq_true (by omega)
        (try rw [show ((0 : Int)).toNat = 0 from rfl] at hx223_0)
        (try rw [Addr.add_zero'] at hx223_0)
        have hn223_0 : ad223.block ≠ gb222 := Nat.ne_of_lt (Nat.lt_of_lt_of_le (by have := World.block_lt_of_cell? _ _ hx223_0; first | rwa [add_block] at this | exact this) GW222.out)
        have hn223_1 : ad223.block ≠ gb222 := Nat.ne_of_lt (Nat.lt_of_lt_of_le (by have := World.block_lt_of_cell? _ _ hx223_0; first | rwa [add_block] at this | exact this) GW222.out)
        have hn223_2 : ad223.block ≠ gb222 := Nat.ne_of_lt (Nat.lt_of_lt_of_le (by have := World.block_lt_of_cell? _ _ hx223_0; first | rwa [add_block] at this | exact this) GW222.out)
        have hn223_3 : ad223.block ≠ gb222 := Nat.ne_of_lt (Nat.lt_of_lt_of_le (by have := World.block_lt_of_cell? _ _ hx223_0; first | rwa [add_block] at this | exact this) GW222.out)
        replace hx223_0 := (HB.out.cell (World.block_lt_of_cell? w _ hx223_0)).trans hx223_0
        replace hx223_0 := (cell_far (p := ⟨gb222, 0, none⟩) (by first | (rw [add_block]; exact hn223_0) | (show (Addr.add _ _).block ≠ _; rw [add_block]; exact hn223_0) | exact hn223_0) (.string (rdOf ByteArray.empty y214 (ji4)))).trans hx223_0
        replace hx223_0 := (cell_far (p := ⟨gb222, 1, none⟩) (by first | (rw [add_block]; exact hn223_1) | (show (Addr.add _ _).block ≠ _; rw [add_block]; exact hn223_1) | exact hn223_1) (.string (rdOf ByteArray.empty y218 (ji7)))).trans hx223_0
        replace hx223_0 := (cell_far (p := ⟨gb222, 2, none⟩) (by first | (rw [add_block]; exact hn223_2) | (show (Addr.add _ _).block ≠ _; rw [add_block]; exact hn223_2) | exact hn223_2) (.slice none 0 0)).trans hx223_0
        replace hx223_0 := (cell_far (p := ⟨gb222, 3, none⟩) (by first | (rw [add_block]; exact hn223_3) | (show (Addr.add _ _).block ≠ _; rw [add_block]; exact hn223_3) | exact hn223_3) (.int .i64 ji10)).trans hx223_0
        clear hn223_0
        clear hn223_1
        clear hn223_2
        clear hn223_3
        replace p223 := eq_true p223
        replace q223 := eq_true q223
        go_wp2_with (first | (go_at_call 67; refine (damperlaw2_within.keep _ _ rfl (by first | decide | assumption | exact wi_ne (by assumption) | exact wi_ne' (by assumption) | omega) _).mono ?_; rintro e w' ⟨rfl, rfl⟩))
        go_meet
        case rel => exact ⟨_, (wrap64 (1 + (ji30))), (by first | rfl | (simp; done) | (simp only [← hji30] <;> (first | rfl | simp)) | (simp [*]; done)), H', ⟨by first | omega | exact Nat.le_refl _⟩, ⟨by (repeat ((with_reducible repeat (first | refine blk_drewN ?_ _ | refine blk_drew ?_ | refine blk_alloc ?_ _)); with_reducible refine blk_far ?_ NB213_222.out _)); (with_reducible repeat (first | refine blk_drewN ?_ _ | refine blk_drew ?_ | refine blk_alloc ?_ _)); exact BK213.out⟩, ⟨by (with_reducible repeat (first | refine blk_drewN ?_ _ | refine blk_drew ?_ | refine blk_alloc ?_ _)); refine blk_put (cs := #[.string (rdOf ByteArray.empty y214 (ji4)), .string (rdOf ByteArray.empty y218 (ji7)), .slice none 0 0, .int .i64 0]) ?_ 3 _ rfl; (with_reducible repeat (first | refine blk_drewN ?_ _ | refine blk_drew ?_ | refine blk_alloc ?_ _)); refine blk_put (cs := #[.string (rdOf ByteArray.empty y214 (ji4)), .string (rdOf ByteArray.empty y218 (ji7)), .slice none 0 0, .int .i64 0]) ?_ 2 _ rfl; (with_reducible repeat (first | refine blk_drewN ?_ _ | refine blk_drew ?_ | refine blk_alloc ?_ _)); refine blk_put (cs := #[.string (rdOf ByteArray.empty y214 (ji4)), .string (⟨#[]⟩ : ByteArray), .slice none 0 0, .int .i64 0]) ?_ 1 _ rfl; (with_reducible repeat (first | refine blk_drewN ?_ _ | refine blk_drew ?_ | refine blk_alloc ?_ _)); refine blk_put (cs := #[.string (⟨#[]⟩ : ByteArray), .string (⟨#[]⟩ : ByteArray), .slice none 0 0, .int .i64 0]) ?_ 0 _ rfl; (with_reducible repeat (first | refine blk_drewN ?_ _ | refine blk_drew ?_ | refine blk_alloc ?_ _)); exact BK222.out⟩, ⟨by repeat (first | (with_reducible first | exact HB.out | apply below_alloc | apply pw_below_drewN | apply below_drew1 | refine below_set ?_ GE213.out | refine below_set ?_ GE222.out) | exact HB.out)⟩⟩
      · rw [if_neg c28] at H
        have c28b0 : decide (0 < (l1.length : Int)) = false := decide_eq_false c28
        have c28b1 : decide (0 < l1.length) = false := decide_eq_false (by omega)
        clear c28
        (first | rw [c28b0] | (simp only [i64_w, i32_w]; rw [c28b0]) | rw [c28b1] | skip)
        have H' := Aside0.mk H
        clear H
        go_wp2_with (first | (go_at_call 67; refine (damperlaw2_within.keep _ _ rfl (by first | decide | assumption | exact wi_ne (by assumption) | exact wi_ne' (by assumption) | omega) _).mono ?_; rintro e w' ⟨rfl, rfl⟩))
        go_meet
        case rel => exact ⟨_, (1), (by first | rfl | (simp; done) | (simp [*]; done)), H', ⟨by first | omega | exact Nat.le_refl _⟩, ⟨by (repeat ((with_reducible repeat (first | refine blk_drewN ?_ _ | refine blk_drew ?_ | refine blk_alloc ?_ _)); with_reducible refine blk_far ?_ NB213_222.out _)); (with_reducible repeat (first | refine blk_drewN ?_ _ | refine blk_drew ?_ | refine blk_alloc ?_ _)); exact BK213.out⟩, ⟨by (with_reducible repeat (first | refine blk_drewN ?_ _ | refine blk_drew ?_ | refine blk_alloc ?_ _)); refine blk_put (cs := #[.string (rdOf ByteArray.empty y214 (ji4)), .string (rdOf ByteArray.empty y218 (ji7)), .slice none 0 0, .int .i64 0]) ?_ 3 _ rfl; (with_reducible repeat (first | refine blk_drewN ?_ _ | refine blk_drew ?_ | refine blk_alloc ?_ _)); refine blk_put (cs := #[.string (rdOf ByteArray.empty y214 (ji4)), .string (rdOf ByteArray.empty y218 (ji7)), .slice none 0 0, .int .i64 0]) ?_ 2 _ rfl; (with_reducible repeat (first | refine blk_drewN ?_ _ | refine blk_drew ?_ | refine blk_alloc ?_ _)); refine blk_put (cs := #[.string (rdOf ByteArray.empty y214 (ji4)), .string (⟨#[]⟩ : ByteArray), .slice none 0 0, .int .i64 0]) ?_ 1 _ rfl; (with_reducible repeat (first | refine blk_drewN ?_ _ | refine blk_drew ?_ | refine blk_alloc ?_ _)); refine blk_put (cs := #[.string (⟨#[]⟩ : ByteArray), .string (⟨#[]⟩ : ByteArray), .slice none 0 0, .int .i64 0]) ?_ 0 _ rfl; (with_reducible repeat (first | refine blk_drewN ?_ _ | refine blk_drew ?_ | refine blk_alloc ?_ _)); exact BK222.out⟩, ⟨by repeat (first | (with_reducible first | exact HB.out | apply below_alloc | apply pw_below_drewN | apply below_drew1 | refine below_set ?_ GE213.out | refine below_set ?_ GE222.out) | exact HB.out)⟩⟩
    case rest =>
      clear HC11
      try clear c2
      try clear p2
      try clear q2
      try clear hx2
      try clear qi2
      try clear p6
      try clear p21
      try clear q21
      try clear hx21
      try clear p22
      try clear q22
      try clear hx22
      try clear qi22
      try clear c28
      try clear c28b0
      try clear c28b1
      try clear c29
      try clear c29b0
      try clear c29b1
      try clear hx217_0
      try clear hx221_0
      try clear hx223_0
      try clear p217
      try clear p221
      try clear p223
      try clear q217
      try clear q221
      try clear q223
      obtain ⟨kq, x9_10, rfl, HA, HJ10, BK213, BK222, HB⟩ := hcut
      cases kq with
      | zero => exact absurd HA.out (by simp [damperlaw2_Route.j0])
      | succ kj10 =>
        have H := HA.out
        clear HA
        simp only [damperlaw2_Route.j0] at H
        have H' := Aside0.mk H
        clear H
        go_wp2_with (first | (go_at_call 67; refine (damperlaw2_within.keep _ _ rfl (by first | decide | assumption | exact wi_ne (by assumption) | exact wi_ne' (by assumption) | omega) _).mono ?_; rintro e w' ⟨rfl, rfl⟩))
        go_loopg [8, 10] kj10 (fun kq v8 v10 w' => ∃ (x8_2 : Int) (x10_2 : Int) (x223002_2 : List (S39)) (u223002 : Value), v8 = .int .i64 x8_2 ∧ v10 = .int .i64 x10_2 ∧ Aside0 (damperlaw2_Route.l0 kq l1 x8_2 x9_10 x10_2 (rdOf ByteArray.empty y214 (ji4)) (rdOf ByteArray.empty y218 (ji7)) x223002_2 ji10 = some (r1, r2, r3, r4)) ∧ Aside0 (kq ≤ kj10) ∧ Aside0 (Kd.R k39 39 w' w.heap.size (fun _ => True) u223002 x223002_2) ∧ Aside0 (w'.heap[gb213]? = some (.cells #[.string (⟨#[]⟩ : ByteArray), .string (⟨#[]⟩ : ByteArray), (.slice none 0 0), .int .i64 0] 26 (0, 0))) ∧ Aside0 (w'.heap[gb222]? = some (.cells #[.string (rdOf ByteArray.empty y214 (ji4)), .string (rdOf ByteArray.empty y218 (ji7)), u223002, .int .i64 ji10] 26 (0, 0))) ∧ Aside0 (Below w.heap.size w w'))
        case atStart => exact ⟨(100), (0), (([] : List (S39))), (.slice none 0 0), (by first | rfl | (simp; done) | (simp [*]; done)), (by first | rfl | (simp; done) | (simp [*]; done)), H', ⟨Nat.le_refl _⟩, ⟨by first | exact Kd.R_nil _ _ _ _ _ | exact Kd.N_nil _ _ _ _ _ | exact Kd.V_nil _ _ _ _ _ | exact Kd.Q_nil _ _ _ _ _ | exact Kd.S_nil _ _ _ _ _⟩, ⟨by (with_reducible repeat (first | refine blk_drewN ?_ _ | refine blk_drew ?_ | refine blk_alloc ?_ _)); exact BK213.out⟩, ⟨by (with_reducible repeat (first | refine blk_drewN ?_ _ | refine blk_drew ?_ | refine blk_alloc ?_ _)); exact BK222.out⟩, ⟨by repeat (first | (with_reducible first | exact HB.out | apply below_alloc | apply pw_below_drewN | apply below_drew1 | refine below_set ?_ GE213.out | refine below_set ?_ GE222.out) | exact HB.out)⟩⟩
        case round =>
          clear H'
          try clear c2
          try clear p2
          try clear q2
          try clear hx2
          try clear qi2
          try clear p6
          try clear p21
          try clear q21
          try clear hx21
          try clear p22
          try clear q22
          try clear hx22
          try clear qi22
          try clear c28
          try clear c28b0
          try clear c28b1
          try clear c29
          try clear c29b0
          try clear c29b1
          try clear hx217_0
          try clear hx221_0
          try clear hx223_0
          try clear p2
          try clear p21
          try clear p217
          try clear p22
          try clear p221
          try clear p223
          try clear p6
          try clear q2
          try clear q21
          try clear q217
          try clear q22
          try clear q221
          try clear q223
          obtain ⟨x8_2, x10_2, x223002_2, u223002, rfl, rfl, HA, HK2, HO_223002, BK213, BK222, HB⟩ := hrel
          cases gk with
          | zero => exact absurd HA.out (by simp [damperlaw2_Route.l0])
          | succ k2 =>
            have H := HA.out
            clear HA
            simp only [damperlaw2_Route.l0] at H
            by_cases c31 : x10_2 < x9_10
            · rw [if_pos c31] at H
              have c31b0 : decide (x10_2 < x9_10) = true := decide_eq_true c31
              clear c31
              have HC32 := Aside0.mk H
              clear H
              go_upto_if 45 with (first | (go_at_call 67; refine (damperlaw2_within.keep _ _ rfl (by first | decide | assumption | exact wi_ne (by assumption) | exact wi_ne' (by assumption) | omega) _).mono ?_; rintro e w' ⟨rfl, rfl⟩))
              go_cut [11] (fun v11 wc => ∃ (kq : Nat) (x11_31 : Int), v11 = .int .i64 x11_31 ∧ Aside0 (damperlaw2_Route.j2 kq l1 x8_2 x9_10 x10_2 x11_31 (rdOf ByteArray.empty y214 (ji4)) (rdOf ByteArray.empty y218 (ji7)) x223002_2 ji10 = some (r1, r2, r3, r4)) ∧ Aside0 (kq ≤ k2) ∧ Aside0 (Kd.R k39 39 wc w.heap.size (fun _ => True) u223002 x223002_2) ∧ Aside0 (wc.heap[gb213]? = some (.cells #[.string (⟨#[]⟩ : ByteArray), .string (⟨#[]⟩ : ByteArray), (.slice none 0 0), .int .i64 0] 26 (0, 0))) ∧ Aside0 (wc.heap[gb222]? = some (.cells #[.string (rdOf ByteArray.empty y214 (ji4)), .string (rdOf ByteArray.empty y218 (ji7)), u223002, .int .i64 ji10] 26 (0, 0))) ∧ Aside0 (Below w.heap.size w wc))
              case first =>
                have H := HC32.out
                clear HC32
                by_cases c33 : (wrap64 (x10_2 + 1)) < (l1.length : Int)
                · rw [if_pos c33] at H
                  have c33b0 : decide ((wrap64 (x10_2 + 1)) < (l1.length : Int)) = true := decide_eq_true c33
                  clear c33
                  (first | rw [c33b0] | (simp only [i64_w, i32_w]; rw [c33b0]) | rw [c33b1] | skip)
                  obtain ⟨ji34, hji34⟩ : ∃ j_ : Int, (wrap64 (x10_2 + 1)) = j_ := ⟨_, rfl⟩
                  replace H : (if 0 ≤ (ji34) then (damperlaw2_Route.j2 k2 l1 x8_2 x9_10 x10_2 (rd l1 (ji34)) (rdOf ByteArray.empty y214 (ji4)) (rdOf ByteArray.empty y218 (ji7)) x223002_2 ji10) else (none)) = some (r1, r2, r3, r4) := by first | (rw [hji34] at H; exact H) | (simp only [hji34] at H ⊢; exact H)
                  (try rw [hji34] at c33b0)
                  have hji34w : (IntKind.i64.wrap (x10_2 + 1)) = ji34 := (i64_w _).trans hji34
                  by_cases c35 : 0 ≤ (ji34)
                  rotate_left
                  · rw [if_neg c35] at H
                    exact absurd H (by simp)
                  rw [if_pos c35] at H
                  have c35b0 : decide (0 ≤ (ji34)) = true := decide_eq_true c35
                  clear c35
                  have H' := Aside0.mk H
                  clear H
                  have p224 : 0 ≤ ((ji34) : Int) := of_decide_eq_true (by first | (with_reducible assumption) | assumption)
                  have q224 : (ji34) < (l1.length : Int) := of_decide_eq_true (by first | (with_reducible assumption) | assumption)
                  obtain ⟨ad224, e224, hx224_0⟩ := Kd.at_int HR1.out (ji34) p224 q224
                  cases e224
                  replace hx224_0 := (HB.out.cell (World.block_lt_of_cell? w _ hx224_0)).trans hx224_0
                  replace p224 := eq_true p224
                  replace q224 := eq_true q224
                  go_wp2_with (first | (go_at_call 67; refine (damperlaw2_within.keep _ _ rfl (by first | decide | assumption | exact wi_ne (by assumption) | exact wi_ne' (by assumption) | omega) _).mono ?_; rintro e w' ⟨rfl, rfl⟩))
                  go_meet
                  case rel => exact ⟨_, (rd l1 (ji34)), (by first | rfl | (simp; done) | (simp only [← hji34] <;> (first | rfl | simp)) | (simp [*]; done)), H', ⟨by have := HJ10.out; have := HK2.out; first | omega | exact Nat.le_refl _⟩, ⟨by (with_reducible repeat (first | apply Kd.R_alloc | apply Kd.R_drewN | apply Kd.R_drew)); exact HO_223002.out⟩, ⟨by (with_reducible repeat (first | refine blk_drewN ?_ _ | refine blk_drew ?_ | refine blk_alloc ?_ _)); exact BK213.out⟩, ⟨by (with_reducible repeat (first | refine blk_drewN ?_ _ | refine blk_drew ?_ | refine blk_alloc ?_ _)); exact BK222.out⟩, ⟨by repeat (first | (with_reducible first | exact HB.out | apply below_alloc | apply pw_below_drewN | apply below_drew1 | refine below_set ?_ GE213.out | refine below_set ?_ GE222.out) | exact HB.out)⟩⟩
                · rw [if_neg c33] at H
                  have c33b0 : decide ((wrap64 (x10_2 + 1)) < (l1.length : Int)) = false := decide_eq_false c33
                  clear c33
                  (first | rw [c33b0] | (simp only [i64_w, i32_w]; rw [c33b0]) | rw [c33b1] | skip)
                  have H' := Aside0.mk H
                  clear H
                  go_wp2_with (first | (go_at_call 67; refine (damperlaw2_within.keep _ _ rfl (by first | decide | assumption | exact wi_ne (by assumption) | exact wi_ne' (by assumption) | omega) _).mono ?_; rintro e w' ⟨rfl, rfl⟩))
                  go_meet
                  case rel => exact ⟨_, (x10_2), (by first | rfl | (simp; done) | (simp [*]; done)), H', ⟨by have := HJ10.out; have := HK2.out; first | omega | exact Nat.le_refl _⟩, ⟨by (with_reducible repeat (first | apply Kd.R_alloc | apply Kd.R_drewN | apply Kd.R_drew)); exact HO_223002.out⟩, ⟨by (with_reducible repeat (first | refine blk_drewN ?_ _ | refine blk_drew ?_ | refine blk_alloc ?_ _)); exact BK213.out⟩, ⟨by (with_reducible repeat (first | refine blk_drewN ?_ _ | refine blk_drew ?_ | refine blk_alloc ?_ _)); exact BK222.out⟩, ⟨by repeat (first | (with_reducible first | exact HB.out | apply below_alloc | apply pw_below_drewN | apply below_drew1 | refine below_set ?_ GE213.out | refine below_set ?_ GE222.out) | exact HB.out)⟩⟩
              case rest =>
                clear HC32
                try clear c2
                try clear p2
                try clear q2
                try clear hx2
                try clear qi2
                try clear c3
                try clear p6
                try clear p21
                try clear q21
                try clear hx21
                try clear p22
                try clear q22
                try clear hx22
                try clear qi22
                try clear c28
                try clear c28b0
                try clear c28b1
                try clear c29
                try clear c29b0
                try clear c29b1
                try clear c31
                try clear c31b0
                try clear c33
                try clear c33b0
                try clear c33b1
                try clear c35
                try clear c35b0
                try clear hx217_0
                try clear hx221_0
                try clear hx223_0
                try clear hx224_0
                try clear p2
                try clear p21
                try clear p217
                try clear p22
                try clear p221
                try clear p223
                try clear p224
                try clear p6
                try clear q2
                try clear q21
                try clear q217
                try clear q22
                try clear q221
                try clear q223
                try clear q224
                obtain ⟨kq, x11_31, rfl, HA, HJ31, HO_223002, BK213, BK222, HB⟩ := hcut
                cases kq with
                | zero => exact absurd HA.out (by simp [damperlaw2_Route.j2])
                | succ kj31 =>
                  have H := HA.out
                  clear HA
                  simp only [damperlaw2_Route.j2] at H
                  by_cases c36 : (wrap64 (x8_2 + 1)) = 0
                  · rw [if_pos c36] at H
                    exact absurd H (by simp)
                  rw [if_neg c36] at H
                  have c36b0 : ((wrap64 (x8_2 + 1)) == 0) = false := beq_eq_false_iff_ne.mpr c36
                  have c36b1 : ((wrap64 (x8_2 + 1)) != 0) = true := bne_iff_ne.mpr c36
                  obtain ⟨ji37, hji37⟩ : ∃ j_ : Int, (wi x11_31 (wrap64 (x8_2 + 1))) = j_ := ⟨_, rfl⟩
                  replace H : (if x10_2 = (wrap64 (x9_10 - 1)) then (damperlaw2_Route.j3 kj31 l1 x8_2 x9_10 x10_2 x11_31 (rdOf ByteArray.empty y214 (ji4)) (rdOf ByteArray.empty y218 (ji7)) x223002_2 ji10 (⟨#[]⟩ : ByteArray) (⟨#[]⟩ : ByteArray) x8_2) else (damperlaw2_Route.j3 kj31 l1 x8_2 x9_10 x10_2 x11_31 (rdOf ByteArray.empty y214 (ji4)) (rdOf ByteArray.empty y218 (ji7)) x223002_2 ji10 (⟨#[]⟩ : ByteArray) (⟨#[]⟩ : ByteArray) ji37)) = some (r1, r2, r3, r4) := by first | (rw [hji37] at H; exact H) | (simp only [hji37] at H ⊢; exact H)
                  have HC38 := Aside0.mk H
                  clear H
                  go_upto_if 59 with (first | (go_at_call 67; refine (damperlaw2_within.keep _ _ rfl (by first | decide | assumption | exact wi_ne (by assumption) | exact wi_ne' (by assumption) | omega) _).mono ?_; rintro e w' ⟨rfl, rfl⟩) | ((with_reducible refine gate_dst (N := 12) rfl ?_); refine box_event ?hg (N := 12) ?hd (cs := #[.string (⟨#[]⟩ : ByteArray), .string (⟨#[]⟩ : ByteArray), .int .i64 0]) (t := 39) ?hr ?_; (case hd => rfl); (case hg => rfl); (case hr => first | (go_simp; done) | (go_simp; rfl)); intro gb225 hg w39 hbox hb; have n0_ := Aside0.mk (Kd.R_below (Kd.R_elderB (by (with_reducible repeat (first | apply Kd.R_alloc | apply Kd.R_drewN | apply Kd.R_drew)); exact HO_223002.out) gb225 (Nat.le_of_eq hg.symm)) hb); have n1_ := Aside0.mk (blk_below (g := gb213) (pk BK213) hb); have n2_ := Aside0.mk (blk_below (g := gb222) (pk BK222) hb); have n3_ := Aside0.mk (below_step (by repeat (first | (with_reducible first | exact HB.out | apply below_alloc | apply pw_below_drewN | apply below_drew1 | refine below_set ?_ GE213.out | refine below_set ?_ GE222.out) | exact HB.out)) hb); have n4_ := Aside0.mk (hbox); have n5_ := Aside0.mk ((by rw [hg]; exact (below_size (by repeat (first | (with_reducible first | exact HB.out | apply below_alloc | apply pw_below_drewN | apply below_drew1 | refine below_set ?_ GE213.out | refine below_set ?_ GE222.out) | exact HB.out))) : w.heap.size ≤ gb225)); have n6_ := Aside0.mk ((by rw [hg]; exact (below_size (by repeat (first | (with_reducible first | exact HB.out | apply below_alloc | apply pw_below_drewN | apply below_drew1 | refine below_set ?_ GE213.out | refine below_set ?_ GE222.out) | exact HB.out))) : w.heap.size ≤ gb225)); have n7_ := Aside0.mk ((ne_lt hg (pk BK213) : gb213 ≠ gb225)); have n8_ := Aside0.mk ((ne_gt hg (pk BK213) : gb225 ≠ gb213)); have n9_ := Aside0.mk ((ne_lt hg (pk BK222) : gb222 ≠ gb225)); have n10_ := Aside0.mk ((ne_gt hg (pk BK222) : gb225 ≠ gb222)); clear HO_223002; clear BK213; clear BK222; clear HB; have HO_223002 := n0_; have BK213 := n1_; have BK222 := n2_; have HB := n3_; have BK225 := n4_; have GW225 := n5_; have GE225 := n6_; have NB213_225 := n7_; have NB225_213 := n8_; have NB222_225 := n9_; have NB225_222 := n10_; clear n0_ n1_ n2_ n3_ n4_ n5_ n6_ n7_ n8_ n9_ n10_; clear hb hbox hg; have hnb40 := NB225_213.out; have hnc40 := NB213_225.out; have hnb41 := NB225_222.out; have hnc41 := NB222_225.out; have hcz42_0 : w39.cell? ⟨gb225, 0, none⟩ = some (.string (⟨#[]⟩ : ByteArray)) := bc BK225 0; have hcz42_1 : w39.cell? ⟨gb225, 1, none⟩ = some (.string (⟨#[]⟩ : ByteArray)) := bc BK225 1; have hcz42_2 : w39.cell? ⟨gb225, 2, none⟩ = some (.int .i64 0) := bc BK225 2; have hfz42_0 := blk_frozen BK225.out 0; have hfz42_1 := blk_frozen BK225.out 1; have hfz42_2 := blk_frozen BK225.out 2))
                  (try simp only [Act.put, List.setIfInBounds_toArray, List.set_cons_zero, List.set_cons_succ])
                  go_cut [] (fun wc => ∃ (kq : Nat) (x226002_37 : Int), Aside0 (damperlaw2_Route.j3 kq l1 x8_2 x9_10 x10_2 x11_31 (rdOf ByteArray.empty y214 (ji4)) (rdOf ByteArray.empty y218 (ji7)) x223002_2 ji10 (⟨#[]⟩ : ByteArray) (⟨#[]⟩ : ByteArray) x226002_37 = some (r1, r2, r3, r4)) ∧ Aside0 (kq ≤ kj31) ∧ Aside0 (Kd.R k39 39 wc w.heap.size (fun k_ => k_ ≠ gb225) u223002 x223002_2) ∧ Aside0 (wc.heap[gb213]? = some (.cells #[.string (⟨#[]⟩ : ByteArray), .string (⟨#[]⟩ : ByteArray), (.slice none 0 0), .int .i64 0] 26 (0, 0))) ∧ Aside0 (wc.heap[gb222]? = some (.cells #[.string (rdOf ByteArray.empty y214 (ji4)), .string (rdOf ByteArray.empty y218 (ji7)), u223002, .int .i64 ji10] 26 (0, 0))) ∧ Aside0 (wc.heap[gb225]? = some (.cells #[.string (⟨#[]⟩ : ByteArray), .string (⟨#[]⟩ : ByteArray), .int .i64 x226002_37] 39 (0, 0))) ∧ Aside0 (Below w.heap.size w wc))
                  case first =>
                    have H := HC38.out
                    clear HC38
                    by_cases c43 : x10_2 = (wrap64 (x9_10 - 1))
                    · rw [if_pos c43] at H
                      have c43b0 : (x10_2 == (wrap64 (x9_10 - 1))) = true := beq_iff_eq.mpr c43
                      have c43b1 : (x10_2 != (wrap64 (x9_10 - 1))) = false := bne_eq_false_iff_eq.mpr c43
                      clear c43
                      (first | rw [c43b0] | (simp only [i64_w, i32_w]; rw [c43b0]) | rw [c43b1] | skip)
                      have H' := Aside0.mk H
                      clear H
                      have hnb44 := NB225_213.out
                      have hnc44 := NB213_225.out
                      have hnb45 := NB225_222.out
                      have hnc45 := NB222_225.out
                      have hcz46_0 : w39.cell? ⟨gb225, 0, none⟩ = some (.string (⟨#[]⟩ : ByteArray)) := bc BK225 0
                      have hcz46_1 : w39.cell? ⟨gb225, 1, none⟩ = some (.string (⟨#[]⟩ : ByteArray)) := bc BK225 1
                      have hcz46_2 : w39.cell? ⟨gb225, 2, none⟩ = some (.int .i64 0) := bc BK225 2
                      have hfz46_0 := blk_frozen BK225.out 0
                      have hfz46_1 := blk_frozen BK225.out 1
                      have hfz46_2 := blk_frozen BK225.out 2
                      go_wp2_with (first | (go_at_call 67; refine (damperlaw2_within.keep _ _ rfl (by first | decide | assumption | exact wi_ne (by assumption) | exact wi_ne' (by assumption) | omega) _).mono ?_; rintro e w' ⟨rfl, rfl⟩))
                      go_meet
                      case rel => exact ⟨_, (x8_2), H', ⟨by have := HJ10.out; have := HK2.out; have := HJ31.out; first | omega | exact Nat.le_refl _⟩, ⟨by (with_reducible repeat (first | apply Kd.R_alloc | apply Kd.R_drewN | apply Kd.R_drew)); exact Kd.R_mono (Kd.R_far (p := ⟨gb225, 2, none⟩) (Kd.R_far (p := ⟨gb225, 2, none⟩) (Kd.R_far (p := ⟨gb225, 1, none⟩) (Kd.R_far (p := ⟨gb225, 0, none⟩) (Kd.R_mono HO_223002.out (fun k_ hk => (⟨hk, hk.2⟩ : _ ∧ k_ ≠ gb225))) (fun _ hk => hk.2) (.string (⟨#[]⟩ : ByteArray))) (fun _ hk => hk.2) (.string (⟨#[]⟩ : ByteArray))) (fun _ hk => hk.2) (.int .i64 ji37)) (fun _ hk => hk.2) (.int .i64 x8_2)) (fun _ hk => hk.1.2)⟩, ⟨by (repeat ((with_reducible repeat (first | refine blk_drewN ?_ _ | refine blk_drew ?_ | refine blk_alloc ?_ _)); with_reducible refine blk_far ?_ NB213_225.out _)); (with_reducible repeat (first | refine blk_drewN ?_ _ | refine blk_drew ?_ | refine blk_alloc ?_ _)); exact BK213.out⟩, ⟨by (repeat ((with_reducible repeat (first | refine blk_drewN ?_ _ | refine blk_drew ?_ | refine blk_alloc ?_ _)); with_reducible refine blk_far ?_ NB222_225.out _)); (with_reducible repeat (first | refine blk_drewN ?_ _ | refine blk_drew ?_ | refine blk_alloc ?_ _)); exact BK222.out⟩, ⟨by (with_reducible repeat (first | refine blk_drewN ?_ _ | refine blk_drew ?_ | refine blk_alloc ?_ _)); refine blk_put (cs := #[.string (⟨#[]⟩ : ByteArray), .string (⟨#[]⟩ : ByteArray), .int .i64 ji37]) ?_ 2 _ rfl; (with_reducible repeat (first | refine blk_drewN ?_ _ | refine blk_drew ?_ | refine blk_alloc ?_ _)); refine blk_put (cs := #[.string (⟨#[]⟩ : ByteArray), .string (⟨#[]⟩ : ByteArray), .int .i64 0]) ?_ 2 _ rfl; (with_reducible repeat (first | refine blk_drewN ?_ _ | refine blk_drew ?_ | refine blk_alloc ?_ _)); refine blk_put (cs := #[.string (⟨#[]⟩ : ByteArray), .string (⟨#[]⟩ : ByteArray), .int .i64 0]) ?_ 1 _ rfl; (with_reducible repeat (first | refine blk_drewN ?_ _ | refine blk_drew ?_ | refine blk_alloc ?_ _)); refine blk_put (cs := #[.string (⟨#[]⟩ : ByteArray), .string (⟨#[]⟩ : ByteArray), .int .i64 0]) ?_ 0 _ rfl; (with_reducible repeat (first | refine blk_drewN ?_ _ | refine blk_drew ?_ | refine blk_alloc ?_ _)); exact BK225.out⟩, ⟨by repeat (first | (with_reducible first | exact HB.out | apply below_alloc | apply pw_below_drewN | apply below_drew1 | refine below_set ?_ GE213.out | refine below_set ?_ GE222.out | refine below_set ?_ GE225.out) | exact HB.out)⟩⟩
                    · rw [if_neg c43] at H
                      have c43b0 : (x10_2 == (wrap64 (x9_10 - 1))) = false := beq_eq_false_iff_ne.mpr c43
                      have c43b1 : (x10_2 != (wrap64 (x9_10 - 1))) = true := bne_iff_ne.mpr c43
                      (first | rw [c43b0] | (simp only [i64_w, i32_w]; rw [c43b0]) | rw [c43b1] | skip)
                      have H' := Aside0.mk H
                      clear H
                      go_wp2_with (first | (go_at_call 67; refine (damperlaw2_within.keep _ _ rfl (by first | decide | assumption | exact wi_ne (by assumption) | exact wi_ne' (by assumption) | omega) _).mono ?_; rintro e w' ⟨rfl, rfl⟩))
                      go_meet
                      case rel => exact ⟨_, (ji37), H', ⟨by have := HJ10.out; have := HK2.out; have := HJ31.out; first | omega | exact Nat.le_refl _⟩, ⟨by (with_reducible repeat (first | apply Kd.R_alloc | apply Kd.R_drewN | apply Kd.R_drew)); exact Kd.R_mono (Kd.R_far (p := ⟨gb225, 2, none⟩) (Kd.R_far (p := ⟨gb225, 1, none⟩) (Kd.R_far (p := ⟨gb225, 0, none⟩) (Kd.R_mono HO_223002.out (fun k_ hk => (⟨hk, hk.2⟩ : _ ∧ k_ ≠ gb225))) (fun _ hk => hk.2) (.string (⟨#[]⟩ : ByteArray))) (fun _ hk => hk.2) (.string (⟨#[]⟩ : ByteArray))) (fun _ hk => hk.2) (.int .i64 ji37)) (fun _ hk => hk.1.2)⟩, ⟨by (repeat ((with_reducible repeat (first | refine blk_drewN ?_ _ | refine blk_drew ?_ | refine blk_alloc ?_ _)); with_reducible refine blk_far ?_ NB213_225.out _)); (with_reducible repeat (first | refine blk_drewN ?_ _ | refine blk_drew ?_ | refine blk_alloc ?_ _)); exact BK213.out⟩, ⟨by (repeat ((with_reducible repeat (first | refine blk_drewN ?_ _ | refine blk_drew ?_ | refine blk_alloc ?_ _)); with_reducible refine blk_far ?_ NB222_225.out _)); (with_reducible repeat (first | refine blk_drewN ?_ _ | refine blk_drew ?_ | refine blk_alloc ?_ _)); exact BK222.out⟩, ⟨by (with_reducible repeat (first | refine blk_drewN ?_ _ | refine blk_drew ?_ | refine blk_alloc ?_ _)); refine blk_put (cs := #[.string (⟨#[]⟩ : ByteArray), .string (⟨#[]⟩ : ByteArray), .int .i64 0]) ?_ 2 _ rfl; (with_reducible repeat (first | refine blk_drewN ?_ _ | refine blk_drew ?_ | refine blk_alloc ?_ _)); refine blk_put (cs := #[.string (⟨#[]⟩ : ByteArray), .string (⟨#[]⟩ : ByteArray), .int .i64 0]) ?_ 1 _ rfl; (with_reducible repeat (first | refine blk_drewN ?_ _ | refine blk_drew ?_ | refine blk_alloc ?_ _)); refine blk_put (cs := #[.string (⟨#[]⟩ : ByteArray), .string (⟨#[]⟩ : ByteArray), .int .i64 0]) ?_ 0 _ rfl; (with_reducible repeat (first | refine blk_drewN ?_ _ | refine blk_drew ?_ | refine blk_alloc ?_ _)); exact BK225.out⟩, ⟨by repeat (first | (with_reducible first | exact HB.out | apply below_alloc | apply pw_below_drewN | apply below_drew1 | refine below_set ?_ GE213.out | refine below_set ?_ GE222.out | refine below_set ?_ GE225.out) | exact HB.out)⟩⟩
                  case rest =>
                    clear HC38
                    try clear c2
                    try clear p2
                    try clear q2
                    try clear hx2
                    try clear qi2
                    try clear c3
                    try clear c4
                    try clear p6
                    try clear p21
                    try clear q21
                    try clear hx21
                    try clear p22
                    try clear q22
                    try clear hx22
                    try clear qi22
                    try clear c28
                    try clear c28b0
                    try clear c28b1
                    try clear c29
                    try clear c29b0
                    try clear c29b1
                    try clear c31
                    try clear c31b0
                    try clear c33
                    try clear c33b0
                    try clear c33b1
                    try clear c35
                    try clear c35b0
                    try clear c36
                    try clear c36b0
                    try clear c36b1
                    try clear c40
                    try clear c41
                    try clear c43
                    try clear c43b0
                    try clear c43b1
                    try clear c44
                    try clear c45
                    try clear hcz42_0
                    try clear hcz42_1
                    try clear hcz42_2
                    try clear hcz46_0
                    try clear hcz46_1
                    try clear hcz46_2
                    try clear hfz42_0
                    try clear hfz42_1
                    try clear hfz42_2
                    try clear hfz46_0
                    try clear hfz46_1
                    try clear hfz46_2
                    try clear hx217_0
                    try clear hx221_0
                    try clear hx223_0
                    try clear hx224_0
                    try clear p2
                    try clear p21
                    try clear p217
                    try clear p22
                    try clear p221
                    try clear p223
                    try clear p224
                    try clear p6
                    try clear q2
                    try clear q21
                    try clear q217
                    try clear q22
                    try clear q221
                    try clear q223
                    try clear q224
                    obtain ⟨kq, x226002_37, HA, HJ37, HO_223002, BK213, BK222, BK225, HB⟩ := hcut
                    cases kq with
                    | zero => exact absurd HA.out (by simp [damperlaw2_Route.j3])
                    | succ kj37 =>
                      have H := HA.out
                      clear HA
                      simp only [damperlaw2_Route.j3] at H
                      obtain ⟨ji47, hji47⟩ : ∃ j_ : Int, (wi (wrap64 (Int.tdiv x11_31 101)) 3) = j_ := ⟨_, rfl⟩
                      replace H : (if (ji47) > 0 then (if (rdOf ByteArray.empty y218 (ji7)).size + 1 ≤ 9223372036854775807 then ((some (([(wrap64 (49 + (wi (wrap64 (Int.tdiv x11_31 303)) 4))) % 256] : List Int) : List Int)).bind fun y226 => (if ((rdOf ByteArray.empty y218 (ji7)) ++ (⟨#[45]⟩ : ByteArray)).size + (strOfNums y226).size ≤ 9223372036854775807 then (damperlaw2_Route.j4 kj37 l1 x8_2 x9_10 x10_2 x11_31 (rdOf ByteArray.empty y214 (ji4)) (rdOf ByteArray.empty y218 (ji7)) x223002_2 ji10 (((rdOf ByteArray.empty y218 (ji7)) ++ (⟨#[45]⟩ : ByteArray)) ++ (strOfNums y226)) (⟨#[]⟩ : ByteArray) x226002_37) else (none))) else (none)) else (damperlaw2_Route.j4 kj37 l1 x8_2 x9_10 x10_2 x11_31 (rdOf ByteArray.empty y214 (ji4)) (rdOf ByteArray.empty y218 (ji7)) x223002_2 ji10 (⟨#[]⟩ : ByteArray) (⟨#[]⟩ : ByteArray) x226002_37)) = some (r1, r2, r3, r4) := by first | (rw [hji47] at H; exact H) | (simp only [hji47] at H ⊢; exact H)
                      have HC48 := Aside0.mk H
                      clear H
                      go_upto_if 65 with (first | (go_at_call 67; refine (damperlaw2_within.keep _ _ rfl (by first | decide | assumption | exact wi_ne (by assumption) | exact wi_ne' (by assumption) | omega) _).mono ?_; rintro e w' ⟨rfl, rfl⟩))
                      go_cut [] (fun wc => ∃ (kq : Nat) (x226000_47 : ByteArray), Aside0 (damperlaw2_Route.j4 kq l1 x8_2 x9_10 x10_2 x11_31 (rdOf ByteArray.empty y214 (ji4)) (rdOf ByteArray.empty y218 (ji7)) x223002_2 ji10 x226000_47 (⟨#[]⟩ : ByteArray) x226002_37 = some (r1, r2, r3, r4)) ∧ Aside0 (kq ≤ kj37) ∧ Aside0 (Kd.R k39 39 wc w.heap.size (fun k_ => k_ ≠ gb225) u223002 x223002_2) ∧ Aside0 (wc.heap[gb213]? = some (.cells #[.string (⟨#[]⟩ : ByteArray), .string (⟨#[]⟩ : ByteArray), (.slice none 0 0), .int .i64 0] 26 (0, 0))) ∧ Aside0 (wc.heap[gb222]? = some (.cells #[.string (rdOf ByteArray.empty y214 (ji4)), .string (rdOf ByteArray.empty y218 (ji7)), u223002, .int .i64 ji10] 26 (0, 0))) ∧ Aside0 (wc.heap[gb225]? = some (.cells #[.string x226000_47, .string (⟨#[]⟩ : ByteArray), .int .i64 x226002_37] 39 (0, 0))) ∧ Aside0 (Below w.heap.size w wc))
                      case first =>
                        have H := HC48.out
                        clear HC48
                        by_cases c49 : (ji47) > 0
                        · rw [if_pos c49] at H
                          have c49b0 : decide (0 < (ji47)) = true := decide_eq_true c49
                          clear c49
                          (first | rw [c49b0] | (simp only [i64_w, i32_w]; rw [c49b0]) | rw [c49b1] | skip)
                          by_cases c50 : (rdOf ByteArray.empty y218 (ji7)).size + 1 ≤ 9223372036854775807
                          rotate_left
                          · rw [if_neg c50] at H
                            exact absurd H (by simp)
                          rw [if_pos c50] at H
                          have c50b0 := eq_true c50
                          have c50b1 : decide ((rdOf ByteArray.empty y218 (ji7)).size + 1 ≤ 9223372036854775807) = true := decide_eq_true c50
                          try have c50b2 : (9223372036854775807 < (rdOf ByteArray.empty y218 (ji7)).size + 1) = False := eq_false (Nat.not_lt.2 c50)
                          try (have c50b4 := c50; simp at c50b4; have c50b5 := eq_false (Nat.not_lt.2 c50b4))
                          obtain ⟨ji51, hji51⟩ : ∃ j_ : Int, (wi (wrap64 (Int.tdiv x11_31 303)) 4) = j_ := ⟨_, rfl⟩
                          replace H : ((some (([(wrap64 (49 + (ji51))) % 256] : List Int) : List Int)).bind fun y226 => (if ((rdOf ByteArray.empty y218 (ji7)) ++ (⟨#[45]⟩ : ByteArray)).size + (strOfNums y226).size ≤ 9223372036854775807 then (damperlaw2_Route.j4 kj37 l1 x8_2 x9_10 x10_2 x11_31 (rdOf ByteArray.empty y214 (ji4)) (rdOf ByteArray.empty y218 (ji7)) x223002_2 ji10 (((rdOf ByteArray.empty y218 (ji7)) ++ (⟨#[45]⟩ : ByteArray)) ++ (strOfNums y226)) (⟨#[]⟩ : ByteArray) x226002_37) else (none))) = some (r1, r2, r3, r4) := by first | (rw [hji51] at H; exact H) | (simp only [hji51] at H ⊢; exact H)
                          obtain ⟨y226, hy226⟩ : ∃ y_ : List Int, y_ = (([(wrap64 (49 + (ji51))) % 256] : List Int)) := ⟨_, rfl⟩
                          replace H : (if ((rdOf ByteArray.empty y218 (ji7)) ++ (⟨#[45]⟩ : ByteArray)).size + (strOfNums y226).size ≤ 9223372036854775807 then (damperlaw2_Route.j4 kj37 l1 x8_2 x9_10 x10_2 x11_31 (rdOf ByteArray.empty y214 (ji4)) (rdOf ByteArray.empty y218 (ji7)) x223002_2 ji10 (((rdOf ByteArray.empty y218 (ji7)) ++ (⟨#[45]⟩ : ByteArray)) ++ (strOfNums y226)) (⟨#[]⟩ : ByteArray) x226002_37) else (none)) = some (r1, r2, r3, r4) := by first | (rw [hy226]; with_reducible exact H) | (have H2_ := (Option.bind_some _ _).symm.trans H; rw [hy226]; with_reducible exact H2_) | (have H2_ := (Option.bind_some _ _).symm.trans H; with_reducible exact H2_) | with_reducible exact H | (rw [hy226]; exact H) | exact H
                          have Ny226 := Aside0.mk hy226
                          clear hy226
                          by_cases c52 : ((rdOf ByteArray.empty y218 (ji7)) ++ (⟨#[45]⟩ : ByteArray)).size + (strOfNums y226).size ≤ 9223372036854775807
                          rotate_left
                          · rw [if_neg c52] at H
                            exact absurd H (by simp)
                          rw [if_pos c52] at H
                          have c52b0 := eq_true c52
                          have c52b1 : decide (((rdOf ByteArray.empty y218 (ji7)) ++ (⟨#[45]⟩ : ByteArray)).size + (strOfNums y226).size ≤ 9223372036854775807) = true := decide_eq_true c52
                          try have c52b3 : (9223372036854775807 < (rdOf ByteArray.empty y218 (ji7)).size + 1 + (strOfNums y226).size) = False := eq_false (by have h_ := c52; simp only [ByteArray.size_append] at h_; exact Nat.not_lt.2 h_)
                          try have c52b2 : (9223372036854775807 < ((rdOf ByteArray.empty y218 (ji7)) ++ (⟨#[45]⟩ : ByteArray)).size + (strOfNums y226).size) = False := eq_false (Nat.not_lt.2 c52)
                          try (have c52b4 := c52; simp at c52b4; have c52b5 := eq_false (Nat.not_lt.2 c52b4))
                          have H' := Aside0.mk H
                          clear H
                          try go_wp2_with (first | (go_at_call 67; refine (damperlaw2_within.keep _ _ rfl (by first | decide | assumption | exact wi_ne (by assumption) | exact wi_ne' (by assumption) | omega) _).mono ?_; rintro e w' ⟨rfl, rfl⟩))
                          replace HO_223002 := Aside0.mk (Kd.R_drew HO_223002.out)
                          replace BK213 := Aside0.mk (blk_drew BK213.out)
                          replace BK222 := Aside0.mk (blk_drew BK222.out)
                          replace BK225 := Aside0.mk (blk_drew BK225.out)
                          replace HB := Aside0.mk (below_drew1 HB.out)
                          refine start_ (n := 13) (S := fun w' => w'.cell? ⟨gb222, 0, none⟩ = some (.string (rdOf ByteArray.empty y214 (ji4))) ∧ w'.cell? ⟨gb222, 1, none⟩ = some (.string (rdOf ByteArray.empty y218 (ji7))) ∧ w'.cell? ⟨gb222, 2, none⟩ = some (u223002) ∧ w'.cell? ⟨gb222, 3, none⟩ = some (.int .i64 ji10)) (ds := []) #[false, false, false, false, false, false, false, false, false, false, false, false, false] (by kernel_rfl) rfl rfl ⟨bc BK222 0, bc BK222 1, bc BK222 2, bc BK222 3⟩ (fun hHeld => ?_); refine with_tabW damperlaw2_Route.tab16 damperlaw2_Route.bits16 (fun HT_ HW_ => ?_)
                          generalize wc.drew = w53 at HO_223002 BK213 BK222 BK225 HB hHeld ⊢
                          refine pure_ (i := 0) (N := some 66) (v := ?_) (a' := ?_) #[true, false, false, false, false, false, false, false, false, false, false, false, false] rfl rfl (any_of HT_.out (by kernel_rfl)) (fun _ _ _ h => h) (Or.inl ⟨by rfl, ?_⟩) ?_ ?_
                          rotate_left
                          · intro w'
                            go_simp
                            with_reducible rfl
                          rotate_left
                          · simp only [Act.put, List.setIfInBounds_toArray, List.set_cons_zero, List.set_cons_succ, i64_w, i32_w]
                            rfl
                          refine pure_ (i := 3) (N := some 69) (v := ?_) (a' := ?_) #[true, false, false, true, false, false, false, false, false, false, false, false, false] rfl rfl (any_of HT_.out (by kernel_rfl)) (fun _ _ _ h => h) (Or.inl ⟨by rfl, ?_⟩) ?_ ?_
                          rotate_left
                          · intro w'
                            go_simp
                            with_reducible rfl
                          rotate_left
                          · simp only [Act.put, List.setIfInBounds_toArray, List.set_cons_zero, List.set_cons_succ, i64_w, i32_w]
                            rfl
                          refine pure_ (i := 4) (N := some 70) (v := ?_) (a' := ?_) #[true, false, false, true, true, false, false, false, false, false, false, false, false] rfl rfl (any_of HT_.out (by kernel_rfl)) (fun _ _ _ h => h) (Or.inl ⟨by rfl, ?_⟩) ?_ ?_
                          rotate_left
                          · intro w'
                            go_simp
                            with_reducible rfl
                          rotate_left
                          · simp only [Act.put, List.setIfInBounds_toArray, List.set_cons_zero, List.set_cons_succ, i64_w, i32_w]
                            rfl
                          refine callp_ (i := 5) (N := some 71) (a' := ?a4_) #[true, false, false, true, true, true, false, false, false, false, false, false, false] rfl rfl (by kernel_rfl) (fun _ _ _ h => h) (by rfl) Tryd.func67 (by kernel_rfl) rfl rfl (by (try simp only [List.map_toArray, List.map_cons, List.map_nil]); rfl) (damperlaw2_within.same _ _ (r := ?jj4_) ?hj4_ (by first | decide | assumption | exact wi_ne (by assumption) | exact wi_ne' (by assumption) | omega)) ?ha4_ ?h4_
                          (case hj4_ => (try simp only [i64_w, i32_w]); first | assumption | (go_simp; rfl))
                          (case ha4_ => simp only [Act.put, List.setIfInBounds_toArray, List.set_cons_zero, List.set_cons_succ, i64_w, i32_w]; rfl)
                          refine pure_ (i := 6) (N := some 72) (v := ?_) (a' := ?_) #[true, false, false, true, true, true, true, false, false, false, false, false, false] rfl rfl (any_of HT_.out (by kernel_rfl)) (fun _ _ _ h => h) (Or.inl ⟨by rfl, ?_⟩) ?_ ?_
                          rotate_left
                          · intro w'
                            go_simp
                            with_reducible rfl
                          rotate_left
                          · simp only [Act.put, List.setIfInBounds_toArray, List.set_cons_zero, List.set_cons_succ, i64_w, i32_w]
                            rfl
                          refine pure_ (i := 7) (N := some 73) (v := ?_) (a' := ?_) #[true, false, false, true, true, true, true, true, false, false, false, false, false] rfl rfl (any_of HT_.out (by kernel_rfl)) (fun _ _ _ h => h) (Or.inl ⟨by rfl, ?_⟩) ?_ ?_
                          rotate_left
                          · intro w'
                            go_simp
                            with_reducible rfl
                          rotate_left
                          · simp only [Act.put, List.setIfInBounds_toArray, List.set_cons_zero, List.set_cons_succ, i64_w, i32_w]
                            rfl
                          refine take_ (i := 1) (N := some 67) (v := ?_) (a' := ?_) #[true, true, false, true, true, true, true, true, false, false, false, false, false] rfl rfl (take_ofW HT_.out HW_.out (by kernel_rfl)) (fun _ _ _ h => h) (Or.inl ⟨by rfl, ?_⟩) hHeld ?_ ?_
                          rotate_left
                          · rintro w' ⟨s0, s1, s2, s3⟩
                            go_simp
                            with_reducible rfl
                          rotate_left
                          · simp only [Act.put, List.setIfInBounds_toArray, List.set_cons_zero, List.set_cons_succ, i64_w, i32_w]
                            rfl
                          refine pure_ (i := 2) (N := some 68) (v := ?_) (a' := ?_) #[true, true, true, true, true, true, true, true, false, false, false, false, false] rfl rfl (any_of HT_.out (by kernel_rfl)) (fun _ _ _ h => h) (Or.inl ⟨by rfl, ?_⟩) ?_ ?_
                          rotate_left
                          · intro w'
                            go_simp
                            with_reducible rfl
                          rotate_left
                          · simp only [Act.put, List.setIfInBounds_toArray, List.set_cons_zero, List.set_cons_succ, i64_w, i32_w]
                            rfl
                          refine one_ (i := 8) (N := some 74) #[true, true, true, true, true, true, true, true, true, false, false, false, false] rfl rfl (one_of HT_.out (by kernel_rfl)) (by decide) (fun K hK => ?_)
                          refine Kd.R_lit_step (Kd.int .u8) _ 5 ?hg (N := 74) ?hd (xs := ([(wrap64 (49 + (ji51))) % 256] : List Int)) (inner := [.int .u8 ((wrap64 (49 + (ji51))) % 256)]) (ok := fun _ => True) (okp := fun _ => True) ?hr ?hp (fun _ hk => hk) trivial (Below.refl _ _) (Nat.le_refl _) (by simp) ?_; (case hd => rfl); (case hg => rfl); (case hr => first | (go_simp; done) | (go_simp; rfl)); (case hp => exact (Reps.one (show Kd.M (Kd.int .u8) _ _ _ ((wrap64 (49 + (ji51))) % 256) [.int .u8 ((wrap64 (49 + (ji51))) % 256)] from rfl) (Reps.none _ _)))
                          intro v227 w54 ho55 hb hg_ hnew_
                          clear hg_ hnew_
                          (first | rw [← Ny226.out] at ho55 | (simp only [Int.reduceToNat] at ho55; rw [← Ny226.out] at ho55))
                          have HO228 := Aside0.mk (Kd.R_lower ho55 (below_size (by repeat (first | (with_reducible first | exact HB.out | apply below_alloc | apply pw_below_drewN | apply below_drew1 | refine below_set ?_ GE213.out | refine below_set ?_ GE222.out | refine below_set ?_ GE225.out) | exact HB.out))))
                          replace HO_223002 := Aside0.mk (Kd.R_below (by (with_reducible repeat (first | apply Kd.R_alloc | apply Kd.R_drewN | apply Kd.R_drew)); exact HO_223002.out) hb)
                          replace BK213 := Aside0.mk (blk_below (g := gb213) (pk BK213) hb)
                          replace BK222 := Aside0.mk (blk_below (g := gb222) (pk BK222) hb)
                          replace BK225 := Aside0.mk (blk_below (g := gb225) (pk BK225) hb)
                          replace HB := Aside0.mk (below_step (by repeat (first | (with_reducible first | exact HB.out | apply below_alloc | apply pw_below_drewN | apply below_drew1 | refine below_set ?_ GE213.out | refine below_set ?_ GE222.out | refine below_set ?_ GE225.out) | exact HB.out)) hb)
                          clear hb ho55
                          refine hK.out _ _ ⟨bc BK222 0, bc BK222 1, bc BK222 2, bc BK222 3⟩ (fun hHeld => ?_)
                          clear hK K
                          refine norm_ (a' := ?_) ?_ ?_
                          rotate_left
                          · show Act.put _ (some 74) _ = _
                            simp only [Act.put, List.setIfInBounds_toArray, List.set_cons_zero, List.set_cons_succ, i64_w, i32_w]
                            rfl
                          refine one_ (i := 9) (N := some 75) #[true, true, true, true, true, true, true, true, true, true, false, false, false] rfl rfl (one_of HT_.out (by kernel_rfl)) (by decide) (fun K hK => ?_)
                          have hcv56 := own_string (P := Tryd.prog) Tryd.underlying41 Tryd.underlying5 Tryd.underlying9 (Kd.own_of_R HO228.out)
                          with_reducible_and_instances refine value_ (w1 := ?_) (v := ?_) ?hw_ ?hN_ ?_ ?_
                          (case hw_ => rfl)
                          (case hN_ => rfl)
                          rotate_left 2
                          · go_simp
                            constructor
                            · rfl
                            · rfl
                          clear hcv56
                          refine hK.out _ _ ⟨bc BK222 0, bc BK222 1, bc BK222 2, bc BK222 3⟩ (fun hHeld => ?_)
                          clear hK K
                          refine norm_ (a' := ?_) ?_ ?_
                          rotate_left
                          · show Act.put _ (some 75) _ = _
                            simp only [Act.put, List.setIfInBounds_toArray, List.set_cons_zero, List.set_cons_succ, i64_w, i32_w]
                            rfl
                          refine pure_ (i := 10) (N := some 76) (v := ?_) (a' := ?_) #[true, true, true, true, true, true, true, true, true, true, true, false, false] rfl rfl (any_of HT_.out (by kernel_rfl)) (fun _ _ _ h => h) (Or.inl ⟨by rfl, ?_⟩) ?_ ?_
                          rotate_left
                          · intro w'
                            go_simp
                            with_reducible rfl
                          rotate_left
                          · simp only [Act.put, List.setIfInBounds_toArray, List.set_cons_zero, List.set_cons_succ, i64_w, i32_w]
                            rfl
                          refine pure_ (i := 11) (N := some 77) (v := ?_) (a' := ?_) #[true, true, true, true, true, true, true, true, true, true, true, true, false] rfl rfl (any_of HT_.out (by kernel_rfl)) (fun _ _ _ h => h) (Or.inl ⟨by rfl, ?_⟩) ?_ ?_
                          rotate_left
                          · intro w'
                            go_simp
                            with_reducible rfl
                          rotate_left
                          · simp only [Act.put, List.setIfInBounds_toArray, List.set_cons_zero, List.set_cons_succ, i64_w, i32_w]
                            rfl
                          refine one_ (i := 12) (N := none) #[true, true, true, true, true, true, true, true, true, true, true, true, true] rfl rfl (one_of HT_.out (by kernel_rfl)) (by decide) (fun K hK => ?_)
                          have hs57 : w54.cell? ⟨gb225, 0, none⟩ = some (.string (⟨#[]⟩ : ByteArray)) := bc BK225 0
                          have hfs57 := blk_frozen BK225.out 0
                          have hns57_0 := NB213_225.out
                          have hns57_1 := NB222_225.out
                          have hms57_0 := NB225_213.out
                          have hms57_1 := NB225_222.out
                          with_reducible_and_instances refine skip_ (w1 := ?_) ?hw_ ?hN_ ?_ ?_
                          (case hw_ => rfl)
                          (case hN_ => rfl)
                          rotate_left
                          · go_simp
                            rfl
                          refine hK.out _ _ ⟨(cf NB222_225 (hHeld.1)), (cf NB222_225 (hHeld.2.1)), (cf NB222_225 (hHeld.2.2.1)), (cf NB222_225 (hHeld.2.2.2))⟩ (fun hHeld => ?_)
                          clear hK K
                          refine done_ (done_of HT_.out (by kernel_rfl)) ?_
                          try go_wp2_with (first | (go_at_call 67; refine (damperlaw2_within.keep _ _ rfl (by first | decide | assumption | exact wi_ne (by assumption) | exact wi_ne' (by assumption) | omega) _).mono ?_; rintro e w' ⟨rfl, rfl⟩))
                          go_meet
                          case rel => exact ⟨_, (((rdOf ByteArray.empty y218 (ji7)) ++ (⟨#[45]⟩ : ByteArray)) ++ (strOfNums y226)), H', ⟨by have := HJ10.out; have := HK2.out; have := HJ31.out; have := HJ37.out; first | omega | exact Nat.le_refl _⟩, ⟨by (with_reducible repeat (first | apply Kd.R_alloc | apply Kd.R_drewN | apply Kd.R_drew)); exact Kd.R_mono (Kd.R_far (p := ⟨gb225, 0, none⟩) (Kd.R_mono HO_223002.out (fun k_ hk => (⟨hk, hk⟩ : _ ∧ k_ ≠ gb225))) (fun _ hk => hk.2) (.string (((rdOf ByteArray.empty y218 (ji7)) ++ (⟨#[45]⟩ : ByteArray)) ++ (strOfNums y226)))) (fun _ hk => hk.1)⟩, ⟨by (with_reducible repeat (first | refine blk_drewN ?_ _ | refine blk_drew ?_ | refine blk_alloc ?_ _)); refine blk_far ?_ NB213_225.out _; (with_reducible repeat (first | refine blk_drewN ?_ _ | refine blk_drew ?_ | refine blk_alloc ?_ _)); exact BK213.out⟩, ⟨by (with_reducible repeat (first | refine blk_drewN ?_ _ | refine blk_drew ?_ | refine blk_alloc ?_ _)); refine blk_far ?_ NB222_225.out _; (with_reducible repeat (first | refine blk_drewN ?_ _ | refine blk_drew ?_ | refine blk_alloc ?_ _)); exact BK222.out⟩, ⟨by (with_reducible repeat (first | refine blk_drewN ?_ _ | refine blk_drew ?_ | refine blk_alloc ?_ _)); refine blk_put (cs := #[.string (⟨#[]⟩ : ByteArray), .string (⟨#[]⟩ : ByteArray), .int .i64 x226002_37]) ?_ 0 _ rfl; (with_reducible repeat (first | refine blk_drewN ?_ _ | refine blk_drew ?_ | refine blk_alloc ?_ _)); exact BK225.out⟩, ⟨by repeat (first | (with_reducible first | exact HB.out | apply below_alloc | apply pw_below_drewN | apply below_drew1 | refine below_set ?_ GE213.out | refine below_set ?_ GE222.out | refine below_set ?_ GE225.out) | exact HB.out)⟩⟩
                        · rw [if_neg c49] at H
                          have c49b0 : decide (0 < (ji47)) = false := decide_eq_false c49
                          clear c49
                          (first | rw [c49b0] | (simp only [i64_w, i32_w]; rw [c49b0]) | rw [c49b1] | skip)
                          have H' := Aside0.mk H
                          clear H
                          go_wp2_with (first | (go_at_call 67; refine (damperlaw2_within.keep _ _ rfl (by first | decide | assumption | exact wi_ne (by assumption) | exact wi_ne' (by assumption) | omega) _).mono ?_; rintro e w' ⟨rfl, rfl⟩))
                          go_meet
                          case rel => exact ⟨_, ((⟨#[]⟩ : ByteArray)), H', ⟨by have := HJ10.out; have := HK2.out; have := HJ31.out; have := HJ37.out; first | omega | exact Nat.le_refl _⟩, ⟨by (with_reducible repeat (first | apply Kd.R_alloc | apply Kd.R_drewN | apply Kd.R_drew)); exact HO_223002.out⟩, ⟨by (with_reducible repeat (first | refine blk_drewN ?_ _ | refine blk_drew ?_ | refine blk_alloc ?_ _)); exact BK213.out⟩, ⟨by (with_reducible repeat (first | refine blk_drewN ?_ _ | refine blk_drew ?_ | refine blk_alloc ?_ _)); exact BK222.out⟩, ⟨by (with_reducible repeat (first | refine blk_drewN ?_ _ | refine blk_drew ?_ | refine blk_alloc ?_ _)); exact BK225.out⟩, ⟨by repeat (first | (with_reducible first | exact HB.out | apply below_alloc | apply pw_below_drewN | apply below_drew1 | refine below_set ?_ GE213.out | refine below_set ?_ GE222.out | refine below_set ?_ GE225.out) | exact HB.out)⟩⟩
                      case rest =>
                        clear HC48
                        try clear c2
                        try clear p2
                        try clear q2
                        try clear hx2
                        try clear qi2
                        try clear c3
                        try clear c4
                        try clear c5
                        try clear hcv5
                        try clear c6
                        try clear p6
                        try clear p21
                        try clear q21
                        try clear hx21
                        try clear p22
                        try clear q22
                        try clear hx22
                        try clear qi22
                        try clear c28
                        try clear c28b0
                        try clear c28b1
                        try clear c29
                        try clear c29b0
                        try clear c29b1
                        try clear c31
                        try clear c31b0
                        try clear c33
                        try clear c33b0
                        try clear c33b1
                        try clear c35
                        try clear c35b0
                        try clear c36
                        try clear c36b0
                        try clear c36b1
                        try clear c40
                        try clear c41
                        try clear c43
                        try clear c43b0
                        try clear c43b1
                        try clear c44
                        try clear c45
                        try clear c49
                        try clear c49b0
                        try clear c49b1
                        try clear c50
                        try clear c50b0
                        try clear c50b1
                        try clear c50b2
                        try clear c52
                        try clear c52b0
                        try clear c52b1
                        try clear c52b2
                        try clear hcv56
                        try clear hcz42_0
                        try clear hcz42_1
                        try clear hcz42_2
                        try clear hcz46_0
                        try clear hcz46_1
                        try clear hcz46_2
                        try clear hfz42_0
                        try clear hfz42_1
                        try clear hfz42_2
                        try clear hfz46_0
                        try clear hfz46_1
                        try clear hfz46_2
                        try clear hx217_0
                        try clear hx221_0
                        try clear hx223_0
                        try clear hx224_0
                        try clear p2
                        try clear p21
                        try clear p217
                        try clear p22
                        try clear p221
                        try clear p223
                        try clear p224
                        try clear p6
                        try clear q2
                        try clear q21
                        try clear q217
                        try clear q22
                        try clear q221
                        try clear q223
                        try clear q224
                        obtain ⟨kq, x226000_47, HA, HJ47, HO_223002, BK213, BK222, BK225, HB⟩ := hcut
                        cases kq with
                        | zero => exact absurd HA.out (by simp [damperlaw2_Route.j4])
                        | succ kj47 =>
                          have H := HA.out
                          clear HA
                          simp only [damperlaw2_Route.j4] at H
                          obtain ⟨ji58, hji58⟩ : ∃ j_ : Int, (wi (wrap64 (Int.tdiv x11_31 1212)) 3) = j_ := ⟨_, rfl⟩
                          replace H : (if (ji58) = 0 then ((some (([(wrap64 (48 + x10_2)) % 256] : List Int) : List Int)).bind fun y229 => (if 1 + (strOfNums y229).size ≤ 9223372036854775807 then (if x223002_2.length < 3518437208883 then (damperlaw2_Route.l0 kj47 l1 (wrap64 (x8_2 - x226002_37)) x9_10 (wrap64 (x10_2 + 1)) (rdOf ByteArray.empty y214 (ji4)) (rdOf ByteArray.empty y218 (ji7)) (x223002_2 ++ [(⟨x226000_47, (⟨#[116]⟩ : ByteArray) ++ (strOfNums y229), x226002_37⟩ : S39)]) ji10) else (none)) else (none))) else (if x223002_2.length < 3518437208883 then (damperlaw2_Route.l0 kj47 l1 (wrap64 (x8_2 - x226002_37)) x9_10 (wrap64 (x10_2 + 1)) (rdOf ByteArray.empty y214 (ji4)) (rdOf ByteArray.empty y218 (ji7)) (x223002_2 ++ [(⟨x226000_47, (⟨#[]⟩ : ByteArray), x226002_37⟩ : S39)]) ji10) else (none))) = some (r1, r2, r3, r4) := by first | (rw [hji58] at H; exact H) | (simp only [hji58] at H ⊢; exact H)
                          by_cases c59 : (ji58) = 0
                          · rw [if_pos c59] at H
                            have c59b0 : ((ji58) == 0) = true := beq_iff_eq.mpr c59
                            have c59b1 : ((ji58) != 0) = false := bne_eq_false_iff_eq.mpr c59
                            clear c59
                            obtain ⟨y229, hy229⟩ : ∃ y_ : List Int, y_ = (([(wrap64 (48 + x10_2)) % 256] : List Int)) := ⟨_, rfl⟩
                            replace H : (if 1 + (strOfNums y229).size ≤ 9223372036854775807 then (if x223002_2.length < 3518437208883 then (damperlaw2_Route.l0 kj47 l1 (wrap64 (x8_2 - x226002_37)) x9_10 (wrap64 (x10_2 + 1)) (rdOf ByteArray.empty y214 (ji4)) (rdOf ByteArray.empty y218 (ji7)) (x223002_2 ++ [(⟨x226000_47, (⟨#[116]⟩ : ByteArray) ++ (strOfNums y229), x226002_37⟩ : S39)]) ji10) else (none)) else (none)) = some (r1, r2, r3, r4) := by first | (rw [hy229]; with_reducible exact H) | (have H2_ := (Option.bind_some _ _).symm.trans H; rw [hy229]; with_reducible exact H2_) | (have H2_ := (Option.bind_some _ _).symm.trans H; with_reducible exact H2_) | with_reducible exact H | (rw [hy229]; exact H) | exact H
                            have Ny229 := Aside0.mk hy229
                            clear hy229
                            by_cases c60 : 1 + (strOfNums y229).size ≤ 9223372036854775807
                            rotate_left
                            · rw [if_neg c60] at H
                              exact absurd H (by simp)
                            rw [if_pos c60] at H
                            have c60b0 := eq_true c60
                            have c60b1 : decide (1 + (strOfNums y229).size ≤ 9223372036854775807) = true := decide_eq_true c60
                            try have c60b2 : (9223372036854775807 < 1 + (strOfNums y229).size) = False := eq_false (Nat.not_lt.2 c60)
                            try (have c60b4 := c60; simp at c60b4; have c60b5 := eq_false (Nat.not_lt.2 c60b4))
                            by_cases c61 : x223002_2.length < 3518437208883
                            rotate_left
                            · rw [if_neg c61] at H
                              exact absurd H (by simp)
                            rw [if_pos c61] at H
                            have LMc61 := Aside0.mk c61
                            clear c61
                            obtain ⟨y232, hy232⟩ : ∃ y_ : List (S39), y_ = (x223002_2 ++ [(⟨x226000_47, (⟨#[116]⟩ : ByteArray) ++ (strOfNums y229), x226002_37⟩ : S39)]) := ⟨_, rfl⟩
                            replace H : (damperlaw2_Route.l0 kj47 l1 (wrap64 (x8_2 - x226002_37)) x9_10 (wrap64 (x10_2 + 1)) (rdOf ByteArray.empty y214 (ji4)) (rdOf ByteArray.empty y218 (ji7)) y232 ji10) = some (r1, r2, r3, r4) := by first | (rw [hy232]; with_reducible exact H) | (have H2_ := (Option.bind_some _ _).symm.trans H; rw [hy232]; with_reducible exact H2_) | (have H2_ := (Option.bind_some _ _).symm.trans H; with_reducible exact H2_) | with_reducible exact H | (rw [hy232]; exact H) | exact H
                            have Ny232 := Aside0.mk hy232
                            clear hy232
                            have H' := Aside0.mk H
                            clear H
                            go_wp2_with (first | (go_at_call 67; refine (damperlaw2_within.keep _ _ rfl (by first | decide | assumption | exact wi_ne (by assumption) | exact wi_ne' (by assumption) | omega) _).mono ?_; rintro e w' ⟨rfl, rfl⟩) | ((with_reducible refine gate_dst (N := 85) rfl ?_); refine Kd.R_lit (Kd.int .u8) _ 5 ?hg (N := 85) ?hd (xs := ([(wrap64 (48 + x10_2)) % 256] : List Int)) (inner := [.int .u8 ((wrap64 (48 + x10_2)) % 256)]) (ok := fun _ => True) (okp := fun _ => True) ?hr ?hp (fun _ hk => hk) trivial (Below.refl _ _) (Nat.le_refl _) (by simp) ?_; (case hd => rfl); (case hg => rfl); (case hr => first | (go_simp; done) | (go_simp; rfl)); (case hp => exact (Reps.one (show Kd.M (Kd.int .u8) _ _ _ ((wrap64 (48 + x10_2)) % 256) [.int .u8 ((wrap64 (48 + x10_2)) % 256)] from rfl) (Reps.none _ _))); intro v230 w62 ho63 hb hg_ hnew_; clear hg_ hnew_; (first | rw [← Ny229.out] at ho63 | (simp only [Int.reduceToNat] at ho63; rw [← Ny229.out] at ho63)); have n0_ := Aside0.mk (Kd.R_below (by (with_reducible repeat (first | apply Kd.R_alloc | apply Kd.R_drewN | apply Kd.R_drew)); exact HO_223002.out) hb); have n1_ := Aside0.mk (Kd.R_lower ho63 (below_size (by repeat (first | (with_reducible first | exact HB.out | apply below_alloc | apply pw_below_drewN | apply below_drew1 | refine below_set ?_ GE213.out | refine below_set ?_ GE222.out | refine below_set ?_ GE225.out) | exact HB.out)))); have n2_ := Aside0.mk (blk_below (g := gb213) (pk BK213) hb); have n3_ := Aside0.mk (blk_below (g := gb222) (pk BK222) hb); have n4_ := Aside0.mk (blk_below (g := gb225) (pk BK225) hb); have n5_ := Aside0.mk (below_step (by repeat (first | (with_reducible first | exact HB.out | apply below_alloc | apply pw_below_drewN | apply below_drew1 | refine below_set ?_ GE213.out | refine below_set ?_ GE222.out | refine below_set ?_ GE225.out) | exact HB.out)) hb); clear HO_223002; clear BK213; clear BK222; clear BK225; clear HB; have HO_223002 := n0_; have HO231 := n1_; have BK213 := n2_; have BK222 := n3_; have BK225 := n4_; have HB := n5_; clear n0_ n1_ n2_ n3_ n4_ n5_; clear hb ho63; have hcv64 := own_string (P := Tryd.prog) Tryd.underlying41 Tryd.underlying5 Tryd.underlying9 (Kd.own_of_R HO231.out); have hnb65 := NB225_213.out; have hnc65 := NB213_225.out; have hnb66 := NB225_222.out; have hnc66 := NB222_225.out; have hcz67_0 : w62.cell? ⟨gb225, 0, none⟩ = some (.string x226000_47) := bc BK225 0; have hcz67_1 : w62.cell? ⟨gb225, 1, none⟩ = some (.string (⟨#[]⟩ : ByteArray)) := bc BK225 1; have hcz67_2 : w62.cell? ⟨gb225, 2, none⟩ = some (.int .i64 x226002_37) := bc BK225 2; have hfz67_0 := blk_frozen BK225.out 0; have hfz67_1 := blk_frozen BK225.out 1; have hfz67_2 := blk_frozen BK225.out 2; have hnb68 := NB222_213.out; have hnc68 := NB213_222.out; have hcz69_0 : w62.cell? ⟨gb222, 0, none⟩ = some (.string (rdOf ByteArray.empty y214 (ji4))) := bc BK222 0; have hcz69_1 : w62.cell? ⟨gb222, 1, none⟩ = some (.string (rdOf ByteArray.empty y218 (ji7))) := bc BK222 1; have hcz69_2 : w62.cell? ⟨gb222, 2, none⟩ = some (u223002) := bc BK222 2; have hcz69_3 : w62.cell? ⟨gb222, 3, none⟩ = some (.int .i64 ji10) := bc BK222 3; have hfz69_0 := blk_frozen BK222.out 0; have hfz69_1 := blk_frozen BK222.out 1; have hfz69_2 := blk_frozen BK222.out 2; have hfz69_3 := blk_frozen BK222.out 3) | ((with_reducible refine gate_builtin (b := .append) (xs := #[.tmp 94, .tmp 96]) rfl ?_); at_builtin; refine Kd.R_append k39 (w0 := w) w.heap.size rfl (.tmp 94) (.tmp 96) 24 39 (.agg #[(.string ⟨#[]⟩), (.string ⟨#[]⟩), (.int .i64 0)]) 40 rfl Tryd.underlying24 info39 rfl (by decide) (by omega) u223002 x223002_2 (⟨x226000_47, (⟨#[116]⟩ : ByteArray) ++ (strOfNums y229), x226002_37⟩ : S39) [.string x226000_47, .string ((⟨#[116]⟩ : ByteArray) ++ (strOfNums y229)), .int .i64 x226002_37] (fun k_ => k_ ≠ gb225) (fun _ => False) rfl (by first | (go_simp; done) | (go_simp; rfl)) ?aP (fun _ hk => hk.elim) ?aF ?aO ?aB ?aS ?aL ?_; (case aP => exact k39_mkM _ _ _ (⟨x226000_47, (⟨#[116]⟩ : ByteArray) ++ (strOfNums y229), x226002_37⟩ : S39)); (case aB => exact (by repeat (first | (with_reducible first | exact HB.out | apply below_alloc | apply pw_below_drewN | apply below_drew1 | refine below_set ?_ GE213.out | refine below_set ?_ GE222.out | refine below_set ?_ GE225.out) | exact HB.out))); (case aF => exact (fun k_ hk => Kd.freshB (g := gb225) (o := .cells #[.string x226000_47, .string ((⟨#[116]⟩ : ByteArray) ++ (strOfNums y229)), .int .i64 x226002_37] 39 (0, 0)) (by (with_reducible repeat (first | refine blk_drewN ?_ _ | refine blk_drew ?_ | refine blk_alloc ?_ _)); refine blk_put (cs := #[.string x226000_47, .string (⟨#[]⟩ : ByteArray), .int .i64 x226002_37]) ?_ 1 _ rfl; (with_reducible repeat (first | refine blk_drewN ?_ _ | refine blk_drew ?_ | refine blk_alloc ?_ _)); exact BK225.out) k_ hk)); (case aO => exact (by (with_reducible repeat (first | apply Kd.R_alloc | apply Kd.R_drewN | apply Kd.R_drew)); exact Kd.R_mono (Kd.R_far (p := ⟨gb225, 1, none⟩) (Kd.R_mono HO_223002.out (fun k_ hk => (⟨hk, hk⟩ : _ ∧ k_ ≠ gb225))) (fun _ hk => hk.2) (.string ((⟨#[116]⟩ : ByteArray) ++ (strOfNums y229)))) (fun _ hk => hk.1))); (case aS => exact (below_size (by repeat (first | (with_reducible first | exact HB.out | apply below_alloc | apply pw_below_drewN | apply below_drew1 | refine below_set ?_ GE213.out | refine below_set ?_ GE222.out | refine below_set ?_ GE225.out) | exact HB.out)))); (case aL => have := LMc61.out; omega); intro v233 w70 ho hb hg hat; rw [← Ny232.out] at ho; have n0_ := Aside0.mk (blk_grown (g := gb213) (o := .cells #[.string (⟨#[]⟩ : ByteArray), .string (⟨#[]⟩ : ByteArray), .slice none 0 0, .int .i64 0] 26 (0, 0)) (by (with_reducible repeat (first | refine blk_drewN ?_ _ | refine blk_drew ?_ | refine blk_alloc ?_ _)); refine blk_far ?_ NB213_225.out _; (with_reducible repeat (first | refine blk_drewN ?_ _ | refine blk_drew ?_ | refine blk_alloc ?_ _)); exact BK213.out) hg (Kd.R_ne HO_223002.out BK213.out (by decide))); have n1_ := Aside0.mk (blk_grown (g := gb222) (o := .cells #[.string (rdOf ByteArray.empty y214 (ji4)), .string (rdOf ByteArray.empty y218 (ji7)), u223002, .int .i64 ji10] 26 (0, 0)) (by (with_reducible repeat (first | refine blk_drewN ?_ _ | refine blk_drew ?_ | refine blk_alloc ?_ _)); refine blk_far ?_ NB222_225.out _; (with_reducible repeat (first | refine blk_drewN ?_ _ | refine blk_drew ?_ | refine blk_alloc ?_ _)); exact BK222.out) hg (Kd.R_ne HO_223002.out BK222.out (by decide))); have n2_ := Aside0.mk (blk_grown (g := gb225) (o := .cells #[.string x226000_47, .string ((⟨#[116]⟩ : ByteArray) ++ (strOfNums y229)), .int .i64 x226002_37] 39 (0, 0)) (by (with_reducible repeat (first | refine blk_drewN ?_ _ | refine blk_drew ?_ | refine blk_alloc ?_ _)); refine blk_put (cs := #[.string x226000_47, .string (⟨#[]⟩ : ByteArray), .int .i64 x226002_37]) ?_ 1 _ rfl; (with_reducible repeat (first | refine blk_drewN ?_ _ | refine blk_drew ?_ | refine blk_alloc ?_ _)); exact BK225.out) hg (Kd.R_away HO_223002.out (fun _ hk => hk))); have n3_ := Aside0.mk (Kd.R_over' (by (with_reducible repeat (first | apply Kd.R_alloc | apply Kd.R_drewN | apply Kd.R_drew)); exact (Kd.R_mono (Kd.R_far (p := ⟨gb225, 1, none⟩) (Kd.R_types HO231.out BK225.out (by decide)) (fun _ hk => hk.2) (.string ((⟨#[116]⟩ : ByteArray) ++ (strOfNums y229)))) (fun _ h_ => h_.1))) (Kd.R_typed (by (with_reducible repeat (first | apply Kd.R_alloc | apply Kd.R_drewN | apply Kd.R_drew)); exact (Kd.R_mono (Kd.R_far (p := ⟨gb225, 1, none⟩) (Kd.R_mono HO_223002.out (fun k_ hk => (⟨hk, hk⟩ : _ ∧ k_ ≠ gb225))) (fun _ hk => hk.2) (.string ((⟨#[116]⟩ : ByteArray) ++ (strOfNums y229)))) (fun _ h_ => h_.1)))) (by decide) hg); have n4_ := Aside0.mk (hb); have n5_ := Aside0.mk (ho); clear BK213; clear BK222; clear BK225; clear HO231; clear HB; clear HO_223002; have BK213 := n0_; have BK222 := n1_; have BK225 := n2_; have HO231 := n3_; have HB := n4_; have HO234 := n5_; clear n0_ n1_ n2_ n3_ n4_ n5_; clear ho hb hg hat; obtain ⟨Ao71, co71, eo71⟩ := Kd.R_slice HO234.out; subst eo71; have hcz72_0 : w70.cell? ⟨gb222, 0, none⟩ = some (.string (rdOf ByteArray.empty y214 (ji4))) := bc BK222 0; have hcz72_1 : w70.cell? ⟨gb222, 1, none⟩ = some (.string (rdOf ByteArray.empty y218 (ji7))) := bc BK222 1; have hcz72_2 : w70.cell? ⟨gb222, 2, none⟩ = some (u223002) := bc BK222 2; have hcz72_3 : w70.cell? ⟨gb222, 3, none⟩ = some (.int .i64 ji10) := bc BK222 3; have hfz72_0 := blk_frozen BK222.out 0; have hfz72_1 := blk_frozen BK222.out 1; have hfz72_2 := blk_frozen BK222.out 2; have hfz72_3 := blk_frozen BK222.out 3))
                            go_roundg kj47
                            case measure => have := HJ10.out; have := HK2.out; have := HJ31.out; have := HJ37.out; have := HJ47.out; omega
                            case rel => exact ⟨(wrap64 (x8_2 - x226002_37)), (wrap64 (x10_2 + 1)), (y232), (.slice Ao71 y232.length co71), (by first | rfl | (simp; done) | (simp [*]; done)), (by first | rfl | (simp; done) | (simp [*]; done)), H', ⟨by have := HJ10.out; have := HK2.out; have := HJ31.out; have := HJ37.out; have := HJ47.out; omega⟩, ⟨by (with_reducible repeat (first | apply Kd.R_alloc | apply Kd.R_drewN | apply Kd.R_drew)); exact Kd.R_mono (Kd.R_far (p := ⟨gb222, 2, none⟩) (Kd.R_types HO234.out BK222.out (by decide)) (fun _ hk => hk.2) (.slice Ao71 y232.length co71)) (fun _ hk => trivial)⟩, ⟨by (with_reducible repeat (first | refine blk_drewN ?_ _ | refine blk_drew ?_ | refine blk_alloc ?_ _)); refine blk_far ?_ NB213_222.out _; (with_reducible repeat (first | refine blk_drewN ?_ _ | refine blk_drew ?_ | refine blk_alloc ?_ _)); exact BK213.out⟩, ⟨by (with_reducible repeat (first | refine blk_drewN ?_ _ | refine blk_drew ?_ | refine blk_alloc ?_ _)); refine blk_put (cs := #[.string (rdOf ByteArray.empty y214 (ji4)), .string (rdOf ByteArray.empty y218 (ji7)), u223002, .int .i64 ji10]) ?_ 2 _ rfl; (with_reducible repeat (first | refine blk_drewN ?_ _ | refine blk_drew ?_ | refine blk_alloc ?_ _)); exact BK222.out⟩, ⟨by repeat (first | (with_reducible first | exact HB.out | apply below_alloc | apply pw_below_drewN | apply below_drew1 | refine below_set ?_ GE213.out | refine below_set ?_ GE222.out | refine below_set ?_ GE225.out) | exact HB.out)⟩⟩
                          · rw [if_neg c59] at H
                            have c59b0 : ((ji58) == 0) = false := beq_eq_false_iff_ne.mpr c59
                            have c59b1 : ((ji58) != 0) = true := bne_iff_ne.mpr c59
                            by_cases c73 : x223002_2.length < 3518437208883
                            rotate_left
                            · rw [if_neg c73] at H
                              exact absurd H (by simp)
                            rw [if_pos c73] at H
                            have LMc73 := Aside0.mk c73
                            clear c73
                            obtain ⟨y235, hy235⟩ : ∃ y_ : List (S39), y_ = (x223002_2 ++ [(⟨x226000_47, (⟨#[]⟩ : ByteArray), x226002_37⟩ : S39)]) := ⟨_, rfl⟩
                            replace H : (damperlaw2_Route.l0 kj47 l1 (wrap64 (x8_2 - x226002_37)) x9_10 (wrap64 (x10_2 + 1)) (rdOf ByteArray.empty y214 (ji4)) (rdOf ByteArray.empty y218 (ji7)) y235 ji10) = some (r1, r2, r3, r4) := by first | (rw [hy235]; with_reducible exact H) | (have H2_ := (Option.bind_some _ _).symm.trans H; rw [hy235]; with_reducible exact H2_) | (have H2_ := (Option.bind_some _ _).symm.trans H; with_reducible exact H2_) | with_reducible exact H | (rw [hy235]; exact H) | exact H
                            have Ny235 := Aside0.mk hy235
                            clear hy235
                            have H' := Aside0.mk H
                            clear H
                            have hnb74 := NB225_213.out
                            have hnc74 := NB213_225.out
                            have hnb75 := NB225_222.out
                            have hnc75 := NB222_225.out
                            have hcz76_0 : wc.cell? ⟨gb225, 0, none⟩ = some (.string x226000_47) := bc BK225 0
                            have hcz76_1 : wc.cell? ⟨gb225, 1, none⟩ = some (.string (⟨#[]⟩ : ByteArray)) := bc BK225 1
                            have hcz76_2 : wc.cell? ⟨gb225, 2, none⟩ = some (.int .i64 x226002_37) := bc BK225 2
                            have hfz76_0 := blk_frozen BK225.out 0
                            have hfz76_1 := blk_frozen BK225.out 1
                            have hfz76_2 := blk_frozen BK225.out 2
                            have hnb77 := NB222_213.out
                            have hnc77 := NB213_222.out
                            have hcz78_0 : wc.cell? ⟨gb222, 0, none⟩ = some (.string (rdOf ByteArray.empty y214 (ji4))) := bc BK222 0
                            have hcz78_1 : wc.cell? ⟨gb222, 1, none⟩ = some (.string (rdOf ByteArray.empty y218 (ji7))) := bc BK222 1
                            have hcz78_2 : wc.cell? ⟨gb222, 2, none⟩ = some (u223002) := bc BK222 2
                            have hcz78_3 : wc.cell? ⟨gb222, 3, none⟩ = some (.int .i64 ji10) := bc BK222 3
                            have hfz78_0 := blk_frozen BK222.out 0
                            have hfz78_1 := blk_frozen BK222.out 1
                            have hfz78_2 := blk_frozen BK222.out 2
                            have hfz78_3 := blk_frozen BK222.out 3
                            go_wp2_with (first | (go_at_call 67; refine (damperlaw2_within.keep _ _ rfl (by first | decide | assumption | exact wi_ne (by assumption) | exact wi_ne' (by assumption) | omega) _).mono ?_; rintro e w' ⟨rfl, rfl⟩) | ((with_reducible refine gate_builtin (b := .append) (xs := #[.tmp 94, .tmp 96]) rfl ?_); at_builtin; refine Kd.R_append k39 (w0 := w) w.heap.size rfl (.tmp 94) (.tmp 96) 24 39 (.agg #[(.string ⟨#[]⟩), (.string ⟨#[]⟩), (.int .i64 0)]) 40 rfl Tryd.underlying24 info39 rfl (by decide) (by omega) u223002 x223002_2 (⟨x226000_47, (⟨#[]⟩ : ByteArray), x226002_37⟩ : S39) [.string x226000_47, .string (⟨#[]⟩ : ByteArray), .int .i64 x226002_37] (fun k_ => k_ ≠ gb225) (fun _ => False) rfl rfl ?aP (fun _ hk => hk.elim) ?aF ?aO ?aB ?aS ?aL ?_; (case aP => exact k39_mkM _ _ _ (⟨x226000_47, (⟨#[]⟩ : ByteArray), x226002_37⟩ : S39)); (case aB => exact (by repeat (first | (with_reducible first | exact HB.out | apply below_alloc | apply pw_below_drewN | apply below_drew1 | refine below_set ?_ GE213.out | refine below_set ?_ GE222.out | refine below_set ?_ GE225.out) | exact HB.out))); (case aF => exact (fun k_ hk => Kd.freshB (g := gb225) (pk BK225) k_ hk)); (case aO => exact (by (with_reducible repeat (first | apply Kd.R_alloc | apply Kd.R_drewN | apply Kd.R_drew)); exact HO_223002.out)); (case aS => exact (below_size (by repeat (first | (with_reducible first | exact HB.out | apply below_alloc | apply pw_below_drewN | apply below_drew1 | refine below_set ?_ GE213.out | refine below_set ?_ GE222.out | refine below_set ?_ GE225.out) | exact HB.out)))); (case aL => have := LMc73.out; omega); intro v236 w79 ho hb hg hat; rw [← Ny235.out] at ho; have n0_ := Aside0.mk (blk_grown (g := gb213) (pk BK213) hg (Kd.R_ne HO_223002.out BK213.out (by decide))); have n1_ := Aside0.mk (blk_grown (g := gb222) (pk BK222) hg (Kd.R_ne HO_223002.out BK222.out (by decide))); have n2_ := Aside0.mk (blk_grown (g := gb225) (pk BK225) hg (Kd.R_away HO_223002.out (fun _ hk => hk))); have n3_ := Aside0.mk (hb); have n4_ := Aside0.mk (ho); clear BK213; clear BK222; clear BK225; clear HB; clear HO_223002; have BK213 := n0_; have BK222 := n1_; have BK225 := n2_; have HB := n3_; have HO237 := n4_; clear n0_ n1_ n2_ n3_ n4_; clear ho hb hg hat; obtain ⟨Ao80, co80, eo80⟩ := Kd.R_slice HO237.out; subst eo80; have hcz81_0 : w79.cell? ⟨gb222, 0, none⟩ = some (.string (rdOf ByteArray.empty y214 (ji4))) := bc BK222 0; have hcz81_1 : w79.cell? ⟨gb222, 1, none⟩ = some (.string (rdOf ByteArray.empty y218 (ji7))) := bc BK222 1; have hcz81_2 : w79.cell? ⟨gb222, 2, none⟩ = some (u223002) := bc BK222 2; have hcz81_3 : w79.cell? ⟨gb222, 3, none⟩ = some (.int .i64 ji10) := bc BK222 3; have hfz81_0 := blk_frozen BK222.out 0; have hfz81_1 := blk_frozen BK222.out 1; have hfz81_2 := blk_frozen BK222.out 2; have hfz81_3 := blk_frozen BK222.out 3))
                            go_roundg kj47
                            case measure => have := HJ10.out; have := HK2.out; have := HJ31.out; have := HJ37.out; have := HJ47.out; omega
                            case rel => exact ⟨(wrap64 (x8_2 - x226002_37)), (wrap64 (x10_2 + 1)), (y235), (.slice Ao80 y235.length co80), (by first | rfl | (simp; done) | (simp [*]; done)), (by first | rfl | (simp; done) | (simp [*]; done)), H', ⟨by have := HJ10.out; have := HK2.out; have := HJ31.out; have := HJ37.out; have := HJ47.out; omega⟩, ⟨by (with_reducible repeat (first | apply Kd.R_alloc | apply Kd.R_drewN | apply Kd.R_drew)); exact Kd.R_mono (Kd.R_far (p := ⟨gb222, 2, none⟩) (Kd.R_types HO237.out BK222.out (by decide)) (fun _ hk => hk.2) (.slice Ao80 y235.length co80)) (fun _ hk => trivial)⟩, ⟨by (with_reducible repeat (first | refine blk_drewN ?_ _ | refine blk_drew ?_ | refine blk_alloc ?_ _)); refine blk_far ?_ NB213_222.out _; (with_reducible repeat (first | refine blk_drewN ?_ _ | refine blk_drew ?_ | refine blk_alloc ?_ _)); exact BK213.out⟩, ⟨by (with_reducible repeat (first | refine blk_drewN ?_ _ | refine blk_drew ?_ | refine blk_alloc ?_ _)); refine blk_put (cs := #[.string (rdOf ByteArray.empty y214 (ji4)), .string (rdOf ByteArray.empty y218 (ji7)), u223002, .int .i64 ji10]) ?_ 2 _ rfl; (with_reducible repeat (first | refine blk_drewN ?_ _ | refine blk_drew ?_ | refine blk_alloc ?_ _)); exact BK222.out⟩, ⟨by repeat (first | (with_reducible first | exact HB.out | apply below_alloc | apply pw_below_drewN | apply below_drew1 | refine below_set ?_ GE213.out | refine below_set ?_ GE222.out | refine below_set ?_ GE225.out) | exact HB.out)⟩⟩
            · rw [if_neg c31] at H
              have c31b0 : decide (x10_2 < x9_10) = false := decide_eq_false c31
              clear c31
              simp only [Option.some.injEq, Prod.mk.injEq] at H
              obtain ⟨rfl, rfl, rfl, rfl⟩ := H
              have hnb82 := NB222_213.out
              have hnc82 := NB213_222.out
              have hcz83_0 : wr.cell? ⟨gb222, 0, none⟩ = some (.string (rdOf ByteArray.empty y214 (ji4))) := bc BK222 0
              have hcz83_1 : wr.cell? ⟨gb222, 1, none⟩ = some (.string (rdOf ByteArray.empty y218 (ji7))) := bc BK222 1
              have hcz83_2 : wr.cell? ⟨gb222, 2, none⟩ = some (u223002) := bc BK222 2
              have hcz83_3 : wr.cell? ⟨gb222, 3, none⟩ = some (.int .i64 ji10) := bc BK222 3
              have hfz83_0 := blk_frozen BK222.out 0
              have hfz83_1 := blk_frozen BK222.out 1
              have hfz83_2 := blk_frozen BK222.out 2
              have hfz83_3 := blk_frozen BK222.out 3
              have hcz84_0 : wr.cell? ⟨gb213, 0, none⟩ = some (.string (⟨#[]⟩ : ByteArray)) := bc BK213 0
              have hcz84_1 : wr.cell? ⟨gb213, 1, none⟩ = some (.string (⟨#[]⟩ : ByteArray)) := bc BK213 1
              have hcz84_2 : wr.cell? ⟨gb213, 2, none⟩ = some (.slice none 0 0) := bc BK213 2
              have hcz84_3 : wr.cell? ⟨gb213, 3, none⟩ = some (.int .i64 0) := bc BK213 3
              have hfz84_0 := blk_frozen BK213.out 0
              have hfz84_1 := blk_frozen BK213.out 1
              have hfz84_2 := blk_frozen BK213.out 2
              have hfz84_3 := blk_frozen BK213.out 3
              obtain ⟨Ao85, co85, eo85⟩ := Kd.R_slice HO_223002.out
              subst eo85
              go_wp2_with (first | (go_at_call 67; refine (damperlaw2_within.keep _ _ rfl (by first | decide | assumption | exact wi_ne (by assumption) | exact wi_ne' (by assumption) | omega) _).mono ?_; rintro e w' ⟨rfl, rfl⟩))
              refine bodyPost_ret (results_cell_row rfl _ _ gb213 26 #[.string (rdOf ByteArray.empty y214 (ji4)), .string (rdOf ByteArray.empty y218 (ji7)), .slice Ao85 x223002_2.length co85, .int .i64 ji10] (0, 0) _ rfl (by (with_reducible repeat (first | refine blk_drewN ?_ _ | refine blk_drew ?_ | refine blk_alloc ?_ _)); refine blk_put (cs := #[.string (rdOf ByteArray.empty y214 (ji4)), .string (rdOf ByteArray.empty y218 (ji7)), .slice Ao85 x223002_2.length co85, .int .i64 0]) ?_ 3 _ rfl; (with_reducible repeat (first | refine blk_drewN ?_ _ | refine blk_drew ?_ | refine blk_alloc ?_ _)); refine blk_put (cs := #[.string (rdOf ByteArray.empty y214 (ji4)), .string (rdOf ByteArray.empty y218 (ji7)), .slice none 0 0, .int .i64 0]) ?_ 2 _ rfl; (with_reducible repeat (first | refine blk_drewN ?_ _ | refine blk_drew ?_ | refine blk_alloc ?_ _)); refine blk_put (cs := #[.string (rdOf ByteArray.empty y214 (ji4)), .string (⟨#[]⟩ : ByteArray), .slice none 0 0, .int .i64 0]) ?_ 1 _ rfl; (with_reducible repeat (first | refine blk_drewN ?_ _ | refine blk_drew ?_ | refine blk_alloc ?_ _)); refine blk_put (cs := #[.string (⟨#[]⟩ : ByteArray), .string (⟨#[]⟩ : ByteArray), .slice none 0 0, .int .i64 0]) ?_ 0 _ rfl; (with_reducible repeat (first | refine blk_drewN ?_ _ | refine blk_drew ?_ | refine blk_alloc ?_ _)); exact BK213.out) Tryd.underlying26 rfl (by kernel_rfl)) rfl ?_
              exact ⟨_, by first | rfl | (simp [errW_none, errW_some] <;> rfl) | (simp only [← hji4, ← hji7, ← hji10]; first | rfl | (simp [errW_none, errW_some] <;> rfl)) | (simp [*, errW_none, errW_some] <;> rfl), by (with_reducible repeat (first | apply Kd.R_alloc | apply Kd.R_drewN | apply Kd.R_drew)); exact Kd.R_mono (Kd.R_far (p := ⟨gb213, 3, none⟩) (Kd.R_far (p := ⟨gb213, 2, none⟩) (Kd.R_far (p := ⟨gb213, 1, none⟩) (Kd.R_far (p := ⟨gb213, 0, none⟩) (Kd.R_types HO_223002.out BK213.out (by decide)) (fun _ hk => hk.2) (.string (rdOf ByteArray.empty y214 (ji4)))) (fun _ hk => hk.2) (.string (rdOf ByteArray.empty y218 (ji7)))) (fun _ hk => hk.2) (.slice Ao85 x223002_2.length co85)) (fun _ hk => hk.2) (.int .i64 ji10)) (fun _ hk => trivial), by repeat (first | (with_reducible first | exact HB.out | apply below_alloc | apply pw_below_drewN | apply below_drew1 | refine below_set ?_ GE213.out | refine below_set ?_ GE222.out) | exact HB.out)⟩
  
  intro hJ0_4_5_10_14
  refine join_ (σ := Value × Addr × Value × Addr) 2 #[true, true, true, true, true, true, true, true, true, true, true, true, true, true, false, false] (fun s_ => [(13, s_.1), (17, .string (rdOf ByteArray.empty y214 (ji4))), (18, s_.2.2.1), (23, .string (rdOf ByteArray.empty y218 (ji7))), (16, .pointer (some (s_.2.1.add ((ji4)).toNat))), (22, .pointer (some (s_.2.2.2.add ((ji7)).toNat))), (26, .agg #[.string (rdOf ByteArray.empty y214 (ji4)), .string (rdOf ByteArray.empty y218 (ji7)), .slice none 0 0, .int .i64 ji10])]) (fun s_ w' => (Kd.R Kd.string 9 w' w.heap.size (fun k_ => some k_ ≠ (s_.2.2.1 : Value).ownBlock) s_.1 y214) ∧ (Kd.R Kd.string 9 w' w.heap.size (fun k_ => some k_ ≠ (s_.1 : Value).ownBlock) s_.2.2.1 y218) ∧ (∃ c_, (s_.1 : Value) = .slice (some s_.2.1) y214.length c_) ∧ (∃ c_, (s_.2.2.1 : Value) = .slice (some s_.2.2.2) y218.length c_) ∧ (w'.heap[gb213]? = some (.cells #[.string (⟨#[]⟩ : ByteArray), .string (⟨#[]⟩ : ByteArray), .slice none 0 0, .int .i64 0] 26 (0, 0))) ∧ (Below w.heap.size w w')) ?_ ?_
  rotate_left
  · intro hJ0_4_5_10
    refine join_ (σ := Value × Addr × Value × Addr × Nat) 3 #[true, true, true, true, true, true, true, true, true, true, false, true, true, false, true, false] (fun s_ => [(13, s_.1), (17, .string (rdOf ByteArray.empty y214 (ji4))), (18, s_.2.2.1), (7, .pointer (some ⟨s_.2.2.2.2, 0, none⟩)), (16, .pointer (some (s_.2.1.add ((ji4)).toNat))), (22, .pointer (some (s_.2.2.2.1.add ((ji7)).toNat)))]) (fun s_ w' => (Kd.R Kd.string 9 w' w.heap.size (fun k_ => some k_ ≠ (s_.2.2.1 : Value).ownBlock) s_.1 y214) ∧ (Kd.R Kd.string 9 w' w.heap.size (fun k_ => some k_ ≠ (s_.1 : Value).ownBlock) s_.2.2.1 y218) ∧ (∃ c_, (s_.1 : Value) = .slice (some s_.2.1) y214.length c_) ∧ (∃ c_, (s_.2.2.1 : Value) = .slice (some s_.2.2.2.1) y218.length c_) ∧ (w'.heap[gb213]? = some (.cells #[.string (⟨#[]⟩ : ByteArray), .string (⟨#[]⟩ : ByteArray), .slice none 0 0, .int .i64 0] 26 (0, 0))) ∧ (w'.heap[s_.2.2.2.2]? = some (.cells #[.string (⟨#[]⟩ : ByteArray), .string (⟨#[]⟩ : ByteArray), .slice none 0 0, .int .i64 0] 26 (0, 0))) ∧ (w.heap.size ≤ s_.2.2.2.2) ∧ (w.heap.size ≤ s_.2.2.2.2) ∧ (gb213 ≠ s_.2.2.2.2) ∧ (s_.2.2.2.2 ≠ gb213) ∧ (Below w.heap.size w w')) ?_ ?_
    rotate_left
    · intro hJ0_4_5_14
      refine join_ (σ := Value × Addr × Value × Addr × Nat) 3 #[true, true, true, true, false, true, true, true, true, true, true, true, true, false, true, false] (fun s_ => [(13, s_.1), (18, s_.2.2.1), (23, .string (rdOf ByteArray.empty y218 (ji7))), (7, .pointer (some ⟨s_.2.2.2.2, 0, none⟩)), (16, .pointer (some (s_.2.1.add ((ji4)).toNat))), (22, .pointer (some (s_.2.2.2.1.add ((ji7)).toNat)))]) (fun s_ w' => (Kd.R Kd.string 9 w' w.heap.size (fun k_ => some k_ ≠ (s_.2.2.1 : Value).ownBlock) s_.1 y214) ∧ (Kd.R Kd.string 9 w' w.heap.size (fun k_ => some k_ ≠ (s_.1 : Value).ownBlock) s_.2.2.1 y218) ∧ (∃ c_, (s_.1 : Value) = .slice (some s_.2.1) y214.length c_) ∧ (∃ c_, (s_.2.2.1 : Value) = .slice (some s_.2.2.2.1) y218.length c_) ∧ (w'.heap[gb213]? = some (.cells #[.string (⟨#[]⟩ : ByteArray), .string (⟨#[]⟩ : ByteArray), .slice none 0 0, .int .i64 0] 26 (0, 0))) ∧ (w'.heap[s_.2.2.2.2]? = some (.cells #[.string (⟨#[]⟩ : ByteArray), .string (⟨#[]⟩ : ByteArray), .slice none 0 0, .int .i64 0] 26 (0, 0))) ∧ (w.heap.size ≤ s_.2.2.2.2) ∧ (w.heap.size ≤ s_.2.2.2.2) ∧ (gb213 ≠ s_.2.2.2.2) ∧ (s_.2.2.2.2 ≠ gb213) ∧ (Below w.heap.size w w')) ?_ ?_
      rotate_left
      · intro hJ0_5_10_14
        refine join_ (σ := Value × Addr × Value × Addr) 4 #[true, true, true, true, true, true, true, true, true, true, false, true, true, false, false, false] (fun s_ => [(13, s_.1), (17, .string (rdOf ByteArray.empty y214 (ji4))), (18, s_.2.2.1), (16, .pointer (some (s_.2.1.add ((ji4)).toNat))), (22, .pointer (some (s_.2.2.2.add ((ji7)).toNat)))]) (fun s_ w' => (Kd.R Kd.string 9 w' w.heap.size (fun k_ => some k_ ≠ (s_.2.2.1 : Value).ownBlock) s_.1 y214) ∧ (Kd.R Kd.string 9 w' w.heap.size (fun k_ => some k_ ≠ (s_.1 : Value).ownBlock) s_.2.2.1 y218) ∧ (∃ c_, (s_.1 : Value) = .slice (some s_.2.1) y214.length c_) ∧ (∃ c_, (s_.2.2.1 : Value) = .slice (some s_.2.2.2) y218.length c_) ∧ (w'.heap[gb213]? = some (.cells #[.string (⟨#[]⟩ : ByteArray), .string (⟨#[]⟩ : ByteArray), .slice none 0 0, .int .i64 0] 26 (0, 0))) ∧ (Below w.heap.size w w')) ?_ ?_
        rotate_left
        · intro hJ0_4_5
          refine join_ (σ := Value × Addr × Nat) 5 #[true, true, true, true, true, false, true, true, true, false, false, true, true, false, true, false] (fun s_ => [(13, s_.1), (17, .string (rdOf ByteArray.empty y214 (ji4))), (7, .pointer (some ⟨s_.2.2, 0, none⟩)), (16, .pointer (some (s_.2.1.add ((ji4)).toNat)))]) (fun s_ w' => (Kd.R Kd.string 9 w' w.heap.size (fun _ => True) s_.1 y214) ∧ (∃ c_, (s_.1 : Value) = .slice (some s_.2.1) y214.length c_) ∧ (w'.heap[gb213]? = some (.cells #[.string (⟨#[]⟩ : ByteArray), .string (⟨#[]⟩ : ByteArray), .slice none 0 0, .int .i64 0] 26 (0, 0))) ∧ (w'.heap[s_.2.2]? = some (.cells #[.string (⟨#[]⟩ : ByteArray), .string (⟨#[]⟩ : ByteArray), .slice none 0 0, .int .i64 0] 26 (0, 0))) ∧ (w.heap.size ≤ s_.2.2) ∧ (w.heap.size ≤ s_.2.2) ∧ (gb213 ≠ s_.2.2) ∧ (s_.2.2 ≠ gb213) ∧ (Below w.heap.size w w')) ?_ ?_
          rotate_left
          · intro hJ0_4_14
            refine join_ (σ := Value × Addr × Value × Addr) 4 #[true, true, true, true, false, true, true, true, true, true, true, true, true, false, false, false] (fun s_ => [(13, s_.1), (18, s_.2.2.1), (23, .string (rdOf ByteArray.empty y218 (ji7))), (16, .pointer (some (s_.2.1.add ((ji4)).toNat))), (22, .pointer (some (s_.2.2.2.add ((ji7)).toNat)))]) (fun s_ w' => (Kd.R Kd.string 9 w' w.heap.size (fun k_ => some k_ ≠ (s_.2.2.1 : Value).ownBlock) s_.1 y214) ∧ (Kd.R Kd.string 9 w' w.heap.size (fun k_ => some k_ ≠ (s_.1 : Value).ownBlock) s_.2.2.1 y218) ∧ (∃ c_, (s_.1 : Value) = .slice (some s_.2.1) y214.length c_) ∧ (∃ c_, (s_.2.2.1 : Value) = .slice (some s_.2.2.2) y218.length c_) ∧ (w'.heap[gb213]? = some (.cells #[.string (⟨#[]⟩ : ByteArray), .string (⟨#[]⟩ : ByteArray), .slice none 0 0, .int .i64 0] 26 (0, 0))) ∧ (Below w.heap.size w w')) ?_ ?_
            rotate_left
            · intro hJ0_5_10
              refine join_ (σ := Value × Addr × Value × Addr × Nat) 4 #[true, true, true, true, false, true, true, true, true, true, false, true, true, false, true, false] (fun s_ => [(13, s_.1), (18, s_.2.2.1), (7, .pointer (some ⟨s_.2.2.2.2, 0, none⟩)), (16, .pointer (some (s_.2.1.add ((ji4)).toNat))), (22, .pointer (some (s_.2.2.2.1.add ((ji7)).toNat)))]) (fun s_ w' => (Kd.R Kd.string 9 w' w.heap.size (fun k_ => some k_ ≠ (s_.2.2.1 : Value).ownBlock) s_.1 y214) ∧ (Kd.R Kd.string 9 w' w.heap.size (fun k_ => some k_ ≠ (s_.1 : Value).ownBlock) s_.2.2.1 y218) ∧ (∃ c_, (s_.1 : Value) = .slice (some s_.2.1) y214.length c_) ∧ (∃ c_, (s_.2.2.1 : Value) = .slice (some s_.2.2.2.1) y218.length c_) ∧ (w'.heap[gb213]? = some (.cells #[.string (⟨#[]⟩ : ByteArray), .string (⟨#[]⟩ : ByteArray), .slice none 0 0, .int .i64 0] 26 (0, 0))) ∧ (w'.heap[s_.2.2.2.2]? = some (.cells #[.string (⟨#[]⟩ : ByteArray), .string (⟨#[]⟩ : ByteArray), .slice none 0 0, .int .i64 0] 26 (0, 0))) ∧ (w.heap.size ≤ s_.2.2.2.2) ∧ (w.heap.size ≤ s_.2.2.2.2) ∧ (gb213 ≠ s_.2.2.2.2) ∧ (s_.2.2.2.2 ≠ gb213) ∧ (Below w.heap.size w w')) ?_ ?_
              rotate_left
              · intro hJ0_5_14
                refine join_ (σ := Value × Addr × Nat) 5 #[false, true, true, false, false, true, true, true, true, true, true, true, true, false, true, false] (fun s_ => [(18, s_.1), (23, .string (rdOf ByteArray.empty y218 (ji7))), (7, .pointer (some ⟨s_.2.2, 0, none⟩)), (22, .pointer (some (s_.2.1.add ((ji7)).toNat)))]) (fun s_ w' => (Kd.R Kd.string 9 w' w.heap.size (fun _ => True) s_.1 y218) ∧ (∃ c_, (s_.1 : Value) = .slice (some s_.2.1) y218.length c_) ∧ (w'.heap[gb213]? = some (.cells #[.string (⟨#[]⟩ : ByteArray), .string (⟨#[]⟩ : ByteArray), .slice none 0 0, .int .i64 0] 26 (0, 0))) ∧ (w'.heap[s_.2.2]? = some (.cells #[.string (⟨#[]⟩ : ByteArray), .string (⟨#[]⟩ : ByteArray), .slice none 0 0, .int .i64 0] 26 (0, 0))) ∧ (w.heap.size ≤ s_.2.2) ∧ (w.heap.size ≤ s_.2.2) ∧ (gb213 ≠ s_.2.2) ∧ (s_.2.2 ≠ gb213) ∧ (Below w.heap.size w w')) ?_ ?_
                rotate_left
                · intro hJ5_10_14
                  refine join_ (σ := Value × Addr) 6 #[true, true, true, true, true, false, true, true, true, false, false, true, true, false, false, false] (fun s_ => [(13, s_.1), (17, .string (rdOf ByteArray.empty y214 (ji4))), (16, .pointer (some (s_.2.add ((ji4)).toNat)))]) (fun s_ w' => (Kd.R Kd.string 9 w' w.heap.size (fun _ => True) s_.1 y214) ∧ (∃ c_, (s_.1 : Value) = .slice (some s_.2) y214.length c_) ∧ (w'.heap[gb213]? = some (.cells #[.string (⟨#[]⟩ : ByteArray), .string (⟨#[]⟩ : ByteArray), .slice none 0 0, .int .i64 0] 26 (0, 0))) ∧ (Below w.heap.size w w')) ?_ ?_
                  rotate_left
                  · intro hJ0_4
                    refine join_ (σ := Value × Addr × Value × Addr) 5 #[true, true, true, true, false, true, true, true, true, true, false, true, true, false, false, false] (fun s_ => [(13, s_.1), (18, s_.2.2.1), (16, .pointer (some (s_.2.1.add ((ji4)).toNat))), (22, .pointer (some (s_.2.2.2.add ((ji7)).toNat)))]) (fun s_ w' => (Kd.R Kd.string 9 w' w.heap.size (fun k_ => some k_ ≠ (s_.2.2.1 : Value).ownBlock) s_.1 y214) ∧ (Kd.R Kd.string 9 w' w.heap.size (fun k_ => some k_ ≠ (s_.1 : Value).ownBlock) s_.2.2.1 y218) ∧ (∃ c_, (s_.1 : Value) = .slice (some s_.2.1) y214.length c_) ∧ (∃ c_, (s_.2.2.1 : Value) = .slice (some s_.2.2.2) y218.length c_) ∧ (w'.heap[gb213]? = some (.cells #[.string (⟨#[]⟩ : ByteArray), .string (⟨#[]⟩ : ByteArray), .slice none 0 0, .int .i64 0] 26 (0, 0))) ∧ (Below w.heap.size w w')) ?_ ?_
                    rotate_left
                    · intro hJ0_5
                      refine join_ (σ := Value × Addr × Nat) 6 #[true, true, true, true, false, false, true, true, true, false, false, true, true, false, true, false] (fun s_ => [(13, s_.1), (7, .pointer (some ⟨s_.2.2, 0, none⟩)), (16, .pointer (some (s_.2.1.add ((ji4)).toNat)))]) (fun s_ w' => (Kd.R Kd.string 9 w' w.heap.size (fun _ => True) s_.1 y214) ∧ (∃ c_, (s_.1 : Value) = .slice (some s_.2.1) y214.length c_) ∧ (w'.heap[gb213]? = some (.cells #[.string (⟨#[]⟩ : ByteArray), .string (⟨#[]⟩ : ByteArray), .slice none 0 0, .int .i64 0] 26 (0, 0))) ∧ (w'.heap[s_.2.2]? = some (.cells #[.string (⟨#[]⟩ : ByteArray), .string (⟨#[]⟩ : ByteArray), .slice none 0 0, .int .i64 0] 26 (0, 0))) ∧ (w.heap.size ≤ s_.2.2) ∧ (w.heap.size ≤ s_.2.2) ∧ (gb213 ≠ s_.2.2) ∧ (s_.2.2 ≠ gb213) ∧ (Below w.heap.size w w')) ?_ ?_
                      rotate_left
                      · intro hJ0_14
                        refine join_ (σ := Value × Addr) 6 #[false, true, true, false, false, true, true, true, true, true, true, true, true, false, false, false] (fun s_ => [(18, s_.1), (23, .string (rdOf ByteArray.empty y218 (ji7))), (22, .pointer (some (s_.2.add ((ji7)).toNat)))]) (fun s_ w' => (Kd.R Kd.string 9 w' w.heap.size (fun _ => True) s_.1 y218) ∧ (∃ c_, (s_.1 : Value) = .slice (some s_.2) y218.length c_) ∧ (w'.heap[gb213]? = some (.cells #[.string (⟨#[]⟩ : ByteArray), .string (⟨#[]⟩ : ByteArray), .slice none 0 0, .int .i64 0] 26 (0, 0))) ∧ (Below w.heap.size w w')) ?_ ?_
                        rotate_left
                        · intro hJ5_10
                          refine join_ (σ := Value × Addr × Nat) 6 #[false, true, true, false, false, true, true, true, true, true, false, true, true, false, true, false] (fun s_ => [(18, s_.1), (7, .pointer (some ⟨s_.2.2, 0, none⟩)), (22, .pointer (some (s_.2.1.add ((ji7)).toNat)))]) (fun s_ w' => (Kd.R Kd.string 9 w' w.heap.size (fun _ => True) s_.1 y218) ∧ (∃ c_, (s_.1 : Value) = .slice (some s_.2.1) y218.length c_) ∧ (w'.heap[gb213]? = some (.cells #[.string (⟨#[]⟩ : ByteArray), .string (⟨#[]⟩ : ByteArray), .slice none 0 0, .int .i64 0] 26 (0, 0))) ∧ (w'.heap[s_.2.2]? = some (.cells #[.string (⟨#[]⟩ : ByteArray), .string (⟨#[]⟩ : ByteArray), .slice none 0 0, .int .i64 0] 26 (0, 0))) ∧ (w.heap.size ≤ s_.2.2) ∧ (w.heap.size ≤ s_.2.2) ∧ (gb213 ≠ s_.2.2) ∧ (s_.2.2 ≠ gb213) ∧ (Below w.heap.size w w')) ?_ ?_
                          rotate_left
                          · intro hJ5_14
                            refine join_ (σ := Value × Addr) 7 #[true, true, true, true, false, false, true, true, true, false, false, true, true, false, false, false] (fun s_ => [(13, s_.1), (16, .pointer (some (s_.2.add ((ji4)).toNat)))]) (fun s_ w' => (Kd.R Kd.string 9 w' w.heap.size (fun _ => True) s_.1 y214) ∧ (∃ c_, (s_.1 : Value) = .slice (some s_.2) y214.length c_) ∧ (w'.heap[gb213]? = some (.cells #[.string (⟨#[]⟩ : ByteArray), .string (⟨#[]⟩ : ByteArray), .slice none 0 0, .int .i64 0] 26 (0, 0))) ∧ (Below w.heap.size w w')) ?_ ?_
                            rotate_left
                            · intro hJ0
                              refine join_ (σ := Value × Addr) 7 #[false, true, true, false, false, true, true, true, true, true, false, true, true, false, false, false] (fun s_ => [(18, s_.1), (22, .pointer (some (s_.2.add ((ji7)).toNat)))]) (fun s_ w' => (Kd.R Kd.string 9 w' w.heap.size (fun _ => True) s_.1 y218) ∧ (∃ c_, (s_.1 : Value) = .slice (some s_.2) y218.length c_) ∧ (w'.heap[gb213]? = some (.cells #[.string (⟨#[]⟩ : ByteArray), .string (⟨#[]⟩ : ByteArray), .slice none 0 0, .int .i64 0] 26 (0, 0))) ∧ (Below w.heap.size w w')) ?_ ?_
                              rotate_left
                              · intro hJ5
                                refine join_ (σ := Nat) 8 #[false, true, true, false, false, false, true, true, true, false, false, true, true, false, true, false] (fun s_ => [(7, .pointer (some ⟨s_, 0, none⟩))]) (fun s_ w' => (w'.heap[gb213]? = some (.cells #[.string (⟨#[]⟩ : ByteArray), .string (⟨#[]⟩ : ByteArray), .slice none 0 0, .int .i64 0] 26 (0, 0))) ∧ (w'.heap[s_]? = some (.cells #[.string (⟨#[]⟩ : ByteArray), .string (⟨#[]⟩ : ByteArray), .slice none 0 0, .int .i64 0] 26 (0, 0))) ∧ (w.heap.size ≤ s_) ∧ (w.heap.size ≤ s_) ∧ (gb213 ≠ s_) ∧ (s_ ≠ gb213) ∧ (Below w.heap.size w w')) ?_ ?_
                                rotate_left
                                · intro hJ14
                                  refine three_ (i := 0) (j := 5) (k := 14) (Ni := some 13) (Nj := some 18) (Nk := some 7) #[true, true, true, false, false, false, true, true, true, false, false, true, true, false, false, false] #[false, true, true, false, false, true, true, true, true, false, false, true, true, false, false, false] #[false, true, true, false, false, false, true, true, true, false, false, true, true, false, true, false] rfl rfl rfl rfl rfl rfl (three_of HT_.out (by kernel_rfl)) (by decide) (by decide) (by decide) (fun K hK => ?_) (fun K hK => ?_) (fun K hK => ?_)
                                  · skip
                                    refine Kd.R_lit_step Kd.string _ 9 ?hg (N := 13) ?hd (xs := ([(⟨#[102, 114, 111, 110, 116]⟩ : ByteArray), (⟨#[98, 97, 99, 107]⟩ : ByteArray), (⟨#[114, 45, 49]⟩ : ByteArray)] : List ByteArray)) (inner := [.string (⟨#[102, 114, 111, 110, 116]⟩ : ByteArray), .string (⟨#[98, 97, 99, 107]⟩ : ByteArray), .string (⟨#[114, 45, 49]⟩ : ByteArray)]) (ok := fun _ => True) (okp := fun _ => True) ?hr ?hp (fun _ hk => hk) trivial (Below.refl _ _) (Nat.le_refl _) (by simp) ?_; (case hd => rfl); (case hg => rfl); (case hr => first | (go_simp; done) | (go_simp; rfl)); (case hp => exact (Reps.one (show Kd.M Kd.string _ _ _ (⟨#[102, 114, 111, 110, 116]⟩ : ByteArray) [.string (⟨#[102, 114, 111, 110, 116]⟩ : ByteArray)] from rfl) (Reps.one (show Kd.M Kd.string _ _ _ (⟨#[98, 97, 99, 107]⟩ : ByteArray) [.string (⟨#[98, 97, 99, 107]⟩ : ByteArray)] from rfl) (Reps.one (show Kd.M Kd.string _ _ _ (⟨#[114, 45, 49]⟩ : ByteArray) [.string (⟨#[114, 45, 49]⟩ : ByteArray)] from rfl) (Reps.none _ _)))))
                                    intro v215 w14 ho15 hb hg_ hnew_
                                    clear hg_ hnew_
                                    (first | rw [← Ny214.out] at ho15 | (simp only [Int.reduceToNat] at ho15; rw [← Ny214.out] at ho15))
                                    have HO216 := Aside0.mk (Kd.R_lower ho15 (below_size (by repeat (first | (with_reducible first | exact HB.out | apply below_alloc | apply pw_below_drewN | apply below_drew1 | refine below_set ?_ GE213.out) | exact HB.out))))
                                    replace BK213 := Aside0.mk (blk_below (g := gb213) (pk BK213) hb)
                                    replace HB := Aside0.mk (below_step (by repeat (first | (with_reducible first | exact HB.out | apply below_alloc | apply pw_below_drewN | apply below_drew1 | refine below_set ?_ GE213.out) | exact HB.out)) hb)
                                    clear hb ho15
                                    obtain ⟨Ao16, co16, eo16⟩ := Kd.R_slice HO216.out
                                    subst eo16
                                    obtain ⟨ado16, fo16, _⟩ := Kd.at_string (Kd.R_reads' HO216.out).2.2 0 (by decide) (by rw [Ny214.out]; simp)
                                    cases fo16
                                    refine hK.out _ _ trivial (fun hHeld => ?_)
                                    clear hK K
                                    refine norm_ (a' := ?_) ?_ ?_
                                    rotate_left
                                    · show Act.put _ (some 13) _ = _
                                      simp only [Act.put, List.setIfInBounds_toArray, List.set_cons_zero, List.set_cons_succ, i64_w, i32_w]
                                      rfl
                                    refine pure_ (i := 3) (N := some 16) (v := ?_) (a' := ?_) #[true, true, true, true, false, false, true, true, true, false, false, true, true, false, false, false] rfl rfl (any_of HT_.out (by kernel_rfl)) (fun _ _ _ h => h) (Or.inl ⟨by rfl, ?_⟩) ?_ ?_
                                    rotate_left
                                    · intro w'
                                      go_simp
                                      with_reducible rfl
                                    rotate_left
                                    · simp only [Act.put, List.setIfInBounds_toArray, List.set_cons_zero, List.set_cons_succ, i64_w, i32_w]
                                      rfl
                                    exact norm0_ (hJ0 (.slice (some ado16) y214.length co16, ado16) _ ⟨(by (with_reducible repeat (first | apply Kd.R_alloc | apply Kd.R_drewN | apply Kd.R_drew)); exact HO216.out), ⟨_, rfl⟩, (pk BK213), (by repeat (first | (with_reducible first | exact HB.out | apply below_alloc | apply pw_below_drewN | apply below_drew1 | refine below_set ?_ GE213.out) | exact HB.out))⟩)
                                  · skip
                                    refine Kd.R_lit_step Kd.string _ 9 ?hg (N := 18) ?hd (xs := ([(⟨#[119, 101, 98]⟩ : ByteArray), (⟨#[97, 112, 105]⟩ : ByteArray), (⟨#[97, 45, 98]⟩ : ByteArray)] : List ByteArray)) (inner := [.string (⟨#[119, 101, 98]⟩ : ByteArray), .string (⟨#[97, 112, 105]⟩ : ByteArray), .string (⟨#[97, 45, 98]⟩ : ByteArray)]) (ok := fun _ => True) (okp := fun _ => True) ?hr ?hp (fun _ hk => hk) trivial (Below.refl _ _) (Nat.le_refl _) (by simp) ?_; (case hd => rfl); (case hg => rfl); (case hr => first | (go_simp; done) | (go_simp; rfl)); (case hp => exact (Reps.one (show Kd.M Kd.string _ _ _ (⟨#[119, 101, 98]⟩ : ByteArray) [.string (⟨#[119, 101, 98]⟩ : ByteArray)] from rfl) (Reps.one (show Kd.M Kd.string _ _ _ (⟨#[97, 112, 105]⟩ : ByteArray) [.string (⟨#[97, 112, 105]⟩ : ByteArray)] from rfl) (Reps.one (show Kd.M Kd.string _ _ _ (⟨#[97, 45, 98]⟩ : ByteArray) [.string (⟨#[97, 45, 98]⟩ : ByteArray)] from rfl) (Reps.none _ _)))))
                                    intro v219 w14 ho15 hb hg_ hnew_
                                    clear hg_ hnew_
                                    (first | rw [← Ny218.out] at ho15 | (simp only [Int.reduceToNat] at ho15; rw [← Ny218.out] at ho15))
                                    have HO220 := Aside0.mk (Kd.R_lower ho15 (below_size (by repeat (first | (with_reducible first | exact HB.out | apply below_alloc | apply pw_below_drewN | apply below_drew1 | refine below_set ?_ GE213.out) | exact HB.out))))
                                    replace BK213 := Aside0.mk (blk_below (g := gb213) (pk BK213) hb)
                                    replace HB := Aside0.mk (below_step (by repeat (first | (with_reducible first | exact HB.out | apply below_alloc | apply pw_below_drewN | apply below_drew1 | refine below_set ?_ GE213.out) | exact HB.out)) hb)
                                    clear hb ho15
                                    obtain ⟨Ao16, co16, eo16⟩ := Kd.R_slice HO220.out
                                    subst eo16
                                    obtain ⟨ado16, fo16, _⟩ := Kd.at_string (Kd.R_reads' HO220.out).2.2 0 (by decide) (by rw [Ny218.out]; simp)
                                    cases fo16
                                    refine hK.out _ _ trivial (fun hHeld => ?_)
                                    clear hK K
                                    refine norm_ (a' := ?_) ?_ ?_
                                    rotate_left
                                    · show Act.put _ (some 18) _ = _
                                      simp only [Act.put, List.setIfInBounds_toArray, List.set_cons_zero, List.set_cons_succ, i64_w, i32_w]
                                      rfl
                                    refine pure_ (i := 9) (N := some 22) (v := ?_) (a' := ?_) #[false, true, true, false, false, true, true, true, true, true, false, true, true, false, false, false] rfl rfl (any_of HT_.out (by kernel_rfl)) (fun _ _ _ h => h) (Or.inl ⟨by rfl, ?_⟩) ?_ ?_
                                    rotate_left
                                    · intro w'
                                      go_simp
                                      with_reducible rfl
                                    rotate_left
                                    · simp only [Act.put, List.setIfInBounds_toArray, List.set_cons_zero, List.set_cons_succ, i64_w, i32_w]
                                      rfl
                                    exact norm0_ (hJ5 (.slice (some ado16) y218.length co16, ado16) _ ⟨(by (with_reducible repeat (first | apply Kd.R_alloc | apply Kd.R_drewN | apply Kd.R_drew)); exact HO220.out), ⟨_, rfl⟩, (pk BK213), (by repeat (first | (with_reducible first | exact HB.out | apply below_alloc | apply pw_below_drewN | apply below_drew1 | refine below_set ?_ GE213.out) | exact HB.out))⟩)
                                  · skip
                                    refine box_step ?hg (N := 7) ?hd (cs := #[.string (⟨#[]⟩ : ByteArray), .string (⟨#[]⟩ : ByteArray), .slice none 0 0, .int .i64 0]) (t := 26) ?hr ?_; (case hd => rfl); (case hg => rfl); (case hr => first | (go_simp; done) | (go_simp; rfl))
                                    intro gb222 hg w14 hbox hb
                                    have BK222 := Aside0.mk (hbox)
                                    have GW222 := Aside0.mk ((by rw [hg]; exact (below_size (by repeat (first | (with_reducible first | exact HB.out | apply below_alloc | apply pw_below_drewN | apply below_drew1 | refine below_set ?_ GE213.out) | exact HB.out))) : w.heap.size ≤ gb222))
                                    have GE222 := GW222
                                    have NB213_222 := Aside0.mk ((ne_lt hg (pk BK213) : gb213 ≠ gb222))
                                    have NB222_213 := Aside0.mk ((ne_gt hg (pk BK213) : gb222 ≠ gb213))
                                    replace BK213 := Aside0.mk (blk_below (g := gb213) (pk BK213) hb)
                                    replace HB := Aside0.mk (below_step (by repeat (first | (with_reducible first | exact HB.out | apply below_alloc | apply pw_below_drewN | apply below_drew1 | refine below_set ?_ GE213.out) | exact HB.out)) hb)
                                    clear hb hbox hg
                                    refine hK.out _ _ trivial (fun hHeld => ?_)
                                    clear hK K
                                    refine norm_ (a' := ?_) ?_ ?_
                                    rotate_left
                                    · show Act.put _ (some 7) _ = _
                                      simp only [Act.put, List.setIfInBounds_toArray, List.set_cons_zero, List.set_cons_succ, i64_w, i32_w]
                                      rfl
                                    exact norm0_ (hJ14 (gb222) _ ⟨(pk BK213), (pk BK222), GW222.out, GE222.out, NB213_222.out, NB222_213.out, (by repeat (first | (with_reducible first | exact HB.out | apply below_alloc | apply pw_below_drewN | apply below_drew1 | refine below_set ?_ GE213.out | refine below_set ?_ GE222.out) | exact HB.out))⟩)
                                · skip
                                  rintro gb222 w15 ⟨h0_, h1_, h2_, h3_, h4_, h5_, h6_⟩
                                  have BK222 := Aside0.mk h1_
                                  have GW222 : Aside0 (w.heap.size ≤ gb222) := ⟨h2_⟩
                                  have GE222 : Aside0 (w.heap.size ≤ gb222) := ⟨h3_⟩
                                  have NB213_222 : Aside0 (gb213 ≠ gb222) := ⟨h4_⟩
                                  have NB222_213 : Aside0 (gb222 ≠ gb213) := ⟨h5_⟩
                                  replace BK213 := Aside0.mk h0_
                                  replace HB : Aside0 (Below w.heap.size w w15) := ⟨h6_⟩
                                  clear h0_ h1_ h2_ h3_ h4_ h5_ h6_
                                  have hHeld := trivial
                                  refine norm_ (a' := ?_) ?_ ?_
                                  rotate_left
                                  · simp only [putAll, Act.put, List.setIfInBounds_toArray, List.set_cons_zero, List.set_cons_succ]
                                    rfl
                                  refine two_ (i := 0) (j := 5) (Ni := some 13) (Nj := some 18) #[true, true, true, false, false, false, true, true, true, false, false, true, true, false, true, false] #[false, true, true, false, false, true, true, true, true, false, false, true, true, false, true, false] rfl rfl rfl rfl (two_of HT_.out (by kernel_rfl)) (by decide) (by decide) (fun K hK => ?_) (fun K hK => ?_)
                                  · skip
                                    refine Kd.R_lit_step Kd.string _ 9 ?hg (N := 13) ?hd (xs := ([(⟨#[102, 114, 111, 110, 116]⟩ : ByteArray), (⟨#[98, 97, 99, 107]⟩ : ByteArray), (⟨#[114, 45, 49]⟩ : ByteArray)] : List ByteArray)) (inner := [.string (⟨#[102, 114, 111, 110, 116]⟩ : ByteArray), .string (⟨#[98, 97, 99, 107]⟩ : ByteArray), .string (⟨#[114, 45, 49]⟩ : ByteArray)]) (ok := fun _ => True) (okp := fun _ => True) ?hr ?hp (fun _ hk => hk) trivial (Below.refl _ _) (Nat.le_refl _) (by simp) ?_; (case hd => rfl); (case hg => rfl); (case hr => first | (go_simp; done) | (go_simp; rfl)); (case hp => exact (Reps.one (show Kd.M Kd.string _ _ _ (⟨#[102, 114, 111, 110, 116]⟩ : ByteArray) [.string (⟨#[102, 114, 111, 110, 116]⟩ : ByteArray)] from rfl) (Reps.one (show Kd.M Kd.string _ _ _ (⟨#[98, 97, 99, 107]⟩ : ByteArray) [.string (⟨#[98, 97, 99, 107]⟩ : ByteArray)] from rfl) (Reps.one (show Kd.M Kd.string _ _ _ (⟨#[114, 45, 49]⟩ : ByteArray) [.string (⟨#[114, 45, 49]⟩ : ByteArray)] from rfl) (Reps.none _ _)))))
                                    intro v215 w16 ho17 hb hg_ hnew_
                                    clear hg_ hnew_
                                    (first | rw [← Ny214.out] at ho17 | (simp only [Int.reduceToNat] at ho17; rw [← Ny214.out] at ho17))
                                    have HO216 := Aside0.mk (Kd.R_lower ho17 (below_size (by repeat (first | (with_reducible first | exact HB.out | apply below_alloc | apply pw_below_drewN | apply below_drew1 | refine below_set ?_ GE213.out | refine below_set ?_ GE222.out) | exact HB.out))))
                                    replace BK213 := Aside0.mk (blk_below (g := gb213) (pk BK213) hb)
                                    replace BK222 := Aside0.mk (blk_below (g := gb222) (pk BK222) hb)
                                    replace HB := Aside0.mk (below_step (by repeat (first | (with_reducible first | exact HB.out | apply below_alloc | apply pw_below_drewN | apply below_drew1 | refine below_set ?_ GE213.out | refine below_set ?_ GE222.out) | exact HB.out)) hb)
                                    clear hb ho17
                                    obtain ⟨Ao18, co18, eo18⟩ := Kd.R_slice HO216.out
                                    subst eo18
                                    obtain ⟨ado18, fo18, _⟩ := Kd.at_string (Kd.R_reads' HO216.out).2.2 0 (by decide) (by rw [Ny214.out]; simp)
                                    cases fo18
                                    refine hK.out _ _ trivial (fun hHeld => ?_)
                                    clear hK K
                                    refine norm_ (a' := ?_) ?_ ?_
                                    rotate_left
                                    · show Act.put _ (some 13) _ = _
                                      simp only [Act.put, List.setIfInBounds_toArray, List.set_cons_zero, List.set_cons_succ, i64_w, i32_w]
                                      rfl
                                    refine pure_ (i := 3) (N := some 16) (v := ?_) (a' := ?_) #[true, true, true, true, false, false, true, true, true, false, false, true, true, false, true, false] rfl rfl (any_of HT_.out (by kernel_rfl)) (fun _ _ _ h => h) (Or.inl ⟨by rfl, ?_⟩) ?_ ?_
                                    rotate_left
                                    · intro w'
                                      go_simp
                                      with_reducible rfl
                                    rotate_left
                                    · simp only [Act.put, List.setIfInBounds_toArray, List.set_cons_zero, List.set_cons_succ, i64_w, i32_w]
                                      rfl
                                    exact norm0_ (hJ0_14 (.slice (some ado18) y214.length co18, ado18, gb222) _ ⟨(by (with_reducible repeat (first | apply Kd.R_alloc | apply Kd.R_drewN | apply Kd.R_drew)); exact HO216.out), ⟨_, rfl⟩, (pk BK213), (pk BK222), GW222.out, GE222.out, NB213_222.out, NB222_213.out, (by repeat (first | (with_reducible first | exact HB.out | apply below_alloc | apply pw_below_drewN | apply below_drew1 | refine below_set ?_ GE213.out | refine below_set ?_ GE222.out) | exact HB.out))⟩)
                                  · skip
                                    refine Kd.R_lit_step Kd.string _ 9 ?hg (N := 18) ?hd (xs := ([(⟨#[119, 101, 98]⟩ : ByteArray), (⟨#[97, 112, 105]⟩ : ByteArray), (⟨#[97, 45, 98]⟩ : ByteArray)] : List ByteArray)) (inner := [.string (⟨#[119, 101, 98]⟩ : ByteArray), .string (⟨#[97, 112, 105]⟩ : ByteArray), .string (⟨#[97, 45, 98]⟩ : ByteArray)]) (ok := fun _ => True) (okp := fun _ => True) ?hr ?hp (fun _ hk => hk) trivial (Below.refl _ _) (Nat.le_refl _) (by simp) ?_; (case hd => rfl); (case hg => rfl); (case hr => first | (go_simp; done) | (go_simp; rfl)); (case hp => exact (Reps.one (show Kd.M Kd.string _ _ _ (⟨#[119, 101, 98]⟩ : ByteArray) [.string (⟨#[119, 101, 98]⟩ : ByteArray)] from rfl) (Reps.one (show Kd.M Kd.string _ _ _ (⟨#[97, 112, 105]⟩ : ByteArray) [.string (⟨#[97, 112, 105]⟩ : ByteArray)] from rfl) (Reps.one (show Kd.M Kd.string _ _ _ (⟨#[97, 45, 98]⟩ : ByteArray) [.string (⟨#[97, 45, 98]⟩ : ByteArray)] from rfl) (Reps.none _ _)))))
                                    intro v219 w16 ho17 hb hg_ hnew_
                                    clear hg_ hnew_
                                    (first | rw [← Ny218.out] at ho17 | (simp only [Int.reduceToNat] at ho17; rw [← Ny218.out] at ho17))
                                    have HO220 := Aside0.mk (Kd.R_lower ho17 (below_size (by repeat (first | (with_reducible first | exact HB.out | apply below_alloc | apply pw_below_drewN | apply below_drew1 | refine below_set ?_ GE213.out | refine below_set ?_ GE222.out) | exact HB.out))))
                                    replace BK213 := Aside0.mk (blk_below (g := gb213) (pk BK213) hb)
                                    replace BK222 := Aside0.mk (blk_below (g := gb222) (pk BK222) hb)
                                    replace HB := Aside0.mk (below_step (by repeat (first | (with_reducible first | exact HB.out | apply below_alloc | apply pw_below_drewN | apply below_drew1 | refine below_set ?_ GE213.out | refine below_set ?_ GE222.out) | exact HB.out)) hb)
                                    clear hb ho17
                                    obtain ⟨Ao18, co18, eo18⟩ := Kd.R_slice HO220.out
                                    subst eo18
                                    obtain ⟨ado18, fo18, _⟩ := Kd.at_string (Kd.R_reads' HO220.out).2.2 0 (by decide) (by rw [Ny218.out]; simp)
                                    cases fo18
                                    refine hK.out _ _ trivial (fun hHeld => ?_)
                                    clear hK K
                                    refine norm_ (a' := ?_) ?_ ?_
                                    rotate_left
                                    · show Act.put _ (some 18) _ = _
                                      simp only [Act.put, List.setIfInBounds_toArray, List.set_cons_zero, List.set_cons_succ, i64_w, i32_w]
                                      rfl
                                    refine pure_ (i := 9) (N := some 22) (v := ?_) (a' := ?_) #[false, true, true, false, false, true, true, true, true, true, false, true, true, false, true, false] rfl rfl (any_of HT_.out (by kernel_rfl)) (fun _ _ _ h => h) (Or.inl ⟨by rfl, ?_⟩) ?_ ?_
                                    rotate_left
                                    · intro w'
                                      go_simp
                                      with_reducible rfl
                                    rotate_left
                                    · simp only [Act.put, List.setIfInBounds_toArray, List.set_cons_zero, List.set_cons_succ, i64_w, i32_w]
                                      rfl
                                    exact norm0_ (hJ5_14 (.slice (some ado18) y218.length co18, ado18, gb222) _ ⟨(by (with_reducible repeat (first | apply Kd.R_alloc | apply Kd.R_drewN | apply Kd.R_drew)); exact HO220.out), ⟨_, rfl⟩, (pk BK213), (pk BK222), GW222.out, GE222.out, NB213_222.out, NB222_213.out, (by repeat (first | (with_reducible first | exact HB.out | apply below_alloc | apply pw_below_drewN | apply below_drew1 | refine below_set ?_ GE213.out | refine below_set ?_ GE222.out) | exact HB.out))⟩)
                              · skip
                                rintro ⟨v219, adz_v219⟩ w17 ⟨h0_, h1_, h2_, h3_⟩
                                have HO220 : Aside0 (Kd.R Kd.string 9 w17 w.heap.size (fun _ => True) v219 y218) := ⟨h0_⟩
                                have HA_HO220 : Aside0 (∃ c_, (v219 : Value) = .slice (some adz_v219) y218.length c_) := ⟨h1_⟩
                                replace BK213 := Aside0.mk h2_
                                replace HB : Aside0 (Below w.heap.size w w17) := ⟨h3_⟩
                                clear h0_ h1_ h2_ h3_
                                have hHeld := trivial
                                obtain ⟨co18, eo18⟩ := HA_HO220.out
                                clear HA_HO220
                                subst eo18
                                refine norm_ (a' := ?_) ?_ ?_
                                rotate_left
                                · simp only [putAll, Act.put, List.setIfInBounds_toArray, List.set_cons_zero, List.set_cons_succ]
                                  rfl
                                refine three_ (i := 0) (j := 10) (k := 14) (Ni := some 13) (Nj := some 23) (Nk := some 7) #[true, true, true, false, false, true, true, true, true, true, false, true, true, false, false, false] #[false, true, true, false, false, true, true, true, true, true, true, true, true, false, false, false] #[false, true, true, false, false, true, true, true, true, true, false, true, true, false, true, false] rfl rfl rfl rfl rfl rfl (three_of HT_.out (by kernel_rfl)) (by decide) (by decide) (by decide) (fun K hK => ?_) (fun K hK => ?_) (fun K hK => ?_)
                                · skip
                                  refine Kd.R_lit_step Kd.string _ 9 ?hg (N := 13) ?hd (xs := ([(⟨#[102, 114, 111, 110, 116]⟩ : ByteArray), (⟨#[98, 97, 99, 107]⟩ : ByteArray), (⟨#[114, 45, 49]⟩ : ByteArray)] : List ByteArray)) (inner := [.string (⟨#[102, 114, 111, 110, 116]⟩ : ByteArray), .string (⟨#[98, 97, 99, 107]⟩ : ByteArray), .string (⟨#[114, 45, 49]⟩ : ByteArray)]) (ok := fun _ => True) (okp := fun _ => True) ?hr ?hp (fun _ hk => hk) trivial (Below.refl _ _) (Nat.le_refl _) (by simp) ?_; (case hd => rfl); (case hg => rfl); (case hr => first | (go_simp; done) | (go_simp; rfl)); (case hp => exact (Reps.one (show Kd.M Kd.string _ _ _ (⟨#[102, 114, 111, 110, 116]⟩ : ByteArray) [.string (⟨#[102, 114, 111, 110, 116]⟩ : ByteArray)] from rfl) (Reps.one (show Kd.M Kd.string _ _ _ (⟨#[98, 97, 99, 107]⟩ : ByteArray) [.string (⟨#[98, 97, 99, 107]⟩ : ByteArray)] from rfl) (Reps.one (show Kd.M Kd.string _ _ _ (⟨#[114, 45, 49]⟩ : ByteArray) [.string (⟨#[114, 45, 49]⟩ : ByteArray)] from rfl) (Reps.none _ _)))))
                                  intro v215 w19 ho20 hb hg_ hnew_
                                  clear hg_ hnew_
                                  (first | rw [← Ny214.out] at ho20 | (simp only [Int.reduceToNat] at ho20; rw [← Ny214.out] at ho20))
                                  have HO216 := Aside0.mk (Kd.R_lower (Kd.R_new' ho20 (Kd.R_lt (by (with_reducible repeat (first | apply Kd.R_alloc | apply Kd.R_drewN | apply Kd.R_drew)); exact HO220.out))) (below_size (by repeat (first | (with_reducible first | exact HB.out | apply below_alloc | apply pw_below_drewN | apply below_drew1 | refine below_set ?_ GE213.out) | exact HB.out))))
                                  replace HO220 := Aside0.mk (Kd.R_elder' (by (with_reducible repeat (first | apply Kd.R_alloc | apply Kd.R_drewN | apply Kd.R_drew)); exact HO220.out) (Kd.R_base ho20) hb)
                                  replace BK213 := Aside0.mk (blk_below (g := gb213) (pk BK213) hb)
                                  replace HB := Aside0.mk (below_step (by repeat (first | (with_reducible first | exact HB.out | apply below_alloc | apply pw_below_drewN | apply below_drew1 | refine below_set ?_ GE213.out) | exact HB.out)) hb)
                                  clear hb ho20
                                  obtain ⟨Ao21, co21, eo21⟩ := Kd.R_slice HO216.out
                                  subst eo21
                                  obtain ⟨ado21, fo21, _⟩ := Kd.at_string (Kd.R_reads' HO216.out).2.2 0 (by decide) (by rw [Ny214.out]; simp)
                                  cases fo21
                                  refine hK.out _ _ trivial (fun hHeld => ?_)
                                  clear hK K
                                  refine norm_ (a' := ?_) ?_ ?_
                                  rotate_left
                                  · show Act.put _ (some 13) _ = _
                                    simp only [Act.put, List.setIfInBounds_toArray, List.set_cons_zero, List.set_cons_succ, i64_w, i32_w]
                                    rfl
                                  refine pure_ (i := 3) (N := some 16) (v := ?_) (a' := ?_) #[true, true, true, true, false, true, true, true, true, true, false, true, true, false, false, false] rfl rfl (any_of HT_.out (by kernel_rfl)) (fun _ _ _ h => h) (Or.inl ⟨by rfl, ?_⟩) ?_ ?_
                                  rotate_left
                                  · intro w'
                                    go_simp
                                    with_reducible rfl
                                  rotate_left
                                  · simp only [Act.put, List.setIfInBounds_toArray, List.set_cons_zero, List.set_cons_succ, i64_w, i32_w]
                                    rfl
                                  exact norm0_ (hJ0_5 (.slice (some ado21) y214.length co21, ado21, .slice (some adz_v219) y218.length co18, adz_v219) _ ⟨(by (with_reducible repeat (first | apply Kd.R_alloc | apply Kd.R_drewN | apply Kd.R_drew)); exact Kd.R_mono HO216.out (fun _ hk => hk.2)), (by (with_reducible repeat (first | apply Kd.R_alloc | apply Kd.R_drewN | apply Kd.R_drew)); exact Kd.R_mono HO220.out (fun _ hk => hk.2)), ⟨_, rfl⟩, ⟨_, rfl⟩, (pk BK213), (by repeat (first | (with_reducible first | exact HB.out | apply below_alloc | apply pw_below_drewN | apply below_drew1 | refine below_set ?_ GE213.out) | exact HB.out))⟩)
                                · skip
                                  (have p221 : 0 ≤ ((ji7) : Int) := of_decide_eq_true (by first | (with_reducible assumption) | assumption); have q221 : (ji7) < (y218.length : Int) := of_decide_eq_true (by first | (with_reducible assumption) | assumption); obtain ⟨ad221, e221, hx221_0⟩ := Kd.at_string (Kd.R_reads' HO220.out).2.2 (ji7) p221 q221; obtain rfl : adz_v219 = ad221 := (by injection e221))
                                  with_reducible_and_instances refine value_ (w1 := ?_) (v := ?_) ?hw_ ?hN_ ?_ ?_
                                  (case hw_ => rfl)
                                  (case hN_ => rfl)
                                  rotate_left 2
                                  · go_simp
                                    constructor
                                    · rfl
                                    · rfl
                                  clear hx221_0
                                  refine hK.out _ _ trivial (fun hHeld => ?_)
                                  clear hK K
                                  refine norm_ (a' := ?_) ?_ ?_
                                  rotate_left
                                  · show Act.put _ (some 23) _ = _
                                    simp only [Act.put, List.setIfInBounds_toArray, List.set_cons_zero, List.set_cons_succ, i64_w, i32_w]
                                    rfl
                                  exact norm0_ (hJ5_10 (.slice (some adz_v219) y218.length co18, adz_v219) _ ⟨(by (with_reducible repeat (first | apply Kd.R_alloc | apply Kd.R_drewN | apply Kd.R_drew)); exact HO220.out), ⟨_, rfl⟩, (pk BK213), (by repeat (first | (with_reducible first | exact HB.out | apply below_alloc | apply pw_below_drewN | apply below_drew1 | refine below_set ?_ GE213.out) | exact HB.out))⟩)
                                · skip
                                  refine box_step ?hg (N := 7) ?hd (cs := #[.string (⟨#[]⟩ : ByteArray), .string (⟨#[]⟩ : ByteArray), .slice none 0 0, .int .i64 0]) (t := 26) ?hr ?_; (case hd => rfl); (case hg => rfl); (case hr => first | (go_simp; done) | (go_simp; rfl))
                                  intro gb222 hg w19 hbox hb
                                  have BK222 := Aside0.mk (hbox)
                                  have GW222 := Aside0.mk ((by rw [hg]; exact (below_size (by repeat (first | (with_reducible first | exact HB.out | apply below_alloc | apply pw_below_drewN | apply below_drew1 | refine below_set ?_ GE213.out) | exact HB.out))) : w.heap.size ≤ gb222))
                                  have GE222 := GW222
                                  have NB213_222 := Aside0.mk ((ne_lt hg (pk BK213) : gb213 ≠ gb222))
                                  have NB222_213 := Aside0.mk ((ne_gt hg (pk BK213) : gb222 ≠ gb213))
                                  replace HO220 := Aside0.mk (Kd.R_below (by (with_reducible repeat (first | apply Kd.R_alloc | apply Kd.R_drewN | apply Kd.R_drew)); exact HO220.out) hb)
                                  replace BK213 := Aside0.mk (blk_below (g := gb213) (pk BK213) hb)
                                  replace HB := Aside0.mk (below_step (by repeat (first | (with_reducible first | exact HB.out | apply below_alloc | apply pw_below_drewN | apply below_drew1 | refine below_set ?_ GE213.out) | exact HB.out)) hb)
                                  clear hb hbox hg
                                  refine hK.out _ _ trivial (fun hHeld => ?_)
                                  clear hK K
                                  refine norm_ (a' := ?_) ?_ ?_
                                  rotate_left
                                  · show Act.put _ (some 7) _ = _
                                    simp only [Act.put, List.setIfInBounds_toArray, List.set_cons_zero, List.set_cons_succ, i64_w, i32_w]
                                    rfl
                                  exact norm0_ (hJ5_14 (.slice (some adz_v219) y218.length co18, adz_v219, gb222) _ ⟨(by (with_reducible repeat (first | apply Kd.R_alloc | apply Kd.R_drewN | apply Kd.R_drew)); exact HO220.out), ⟨_, rfl⟩, (pk BK213), (pk BK222), GW222.out, GE222.out, NB213_222.out, NB222_213.out, (by repeat (first | (with_reducible first | exact HB.out | apply below_alloc | apply pw_below_drewN | apply below_drew1 | refine below_set ?_ GE213.out | refine below_set ?_ GE222.out) | exact HB.out))⟩)
                            · skip
                              rintro ⟨v215, adz_v215⟩ w17 ⟨h0_, h1_, h2_, h3_⟩
                              have HO216 : Aside0 (Kd.R Kd.string 9 w17 w.heap.size (fun _ => True) v215 y214) := ⟨h0_⟩
                              have HA_HO216 : Aside0 (∃ c_, (v215 : Value) = .slice (some adz_v215) y214.length c_) := ⟨h1_⟩
                              replace BK213 := Aside0.mk h2_
                              replace HB : Aside0 (Below w.heap.size w w17) := ⟨h3_⟩
                              clear h0_ h1_ h2_ h3_
                              have hHeld := trivial
                              obtain ⟨co18, eo18⟩ := HA_HO216.out
                              clear HA_HO216
                              subst eo18
                              refine norm_ (a' := ?_) ?_ ?_
                              rotate_left
                              · simp only [putAll, Act.put, List.setIfInBounds_toArray, List.set_cons_zero, List.set_cons_succ]
                                rfl
                              refine three_ (i := 4) (j := 5) (k := 14) (Ni := some 17) (Nj := some 18) (Nk := some 7) #[true, true, true, true, true, false, true, true, true, false, false, true, true, false, false, false] #[true, true, true, true, false, true, true, true, true, false, false, true, true, false, false, false] #[true, true, true, true, false, false, true, true, true, false, false, true, true, false, true, false] rfl rfl rfl rfl rfl rfl (three_of HT_.out (by kernel_rfl)) (by decide) (by decide) (by decide) (fun K hK => ?_) (fun K hK => ?_) (fun K hK => ?_)
                              · skip
                                (have p217 : 0 ≤ ((ji4) : Int) := of_decide_eq_true (by first | (with_reducible assumption) | assumption); have q217 : (ji4) < (y214.length : Int) := of_decide_eq_true (by first | (with_reducible assumption) | assumption); obtain ⟨ad217, e217, hx217_0⟩ := Kd.at_string (Kd.R_reads' HO216.out).2.2 (ji4) p217 q217; obtain rfl : adz_v215 = ad217 := (by injection e217))
                                with_reducible_and_instances refine value_ (w1 := ?_) (v := ?_) ?hw_ ?hN_ ?_ ?_
                                (case hw_ => rfl)
                                (case hN_ => rfl)
                                rotate_left 2
                                · go_simp
                                  constructor
                                  · rfl
                                  · rfl
                                clear hx217_0
                                refine hK.out _ _ trivial (fun hHeld => ?_)
                                clear hK K
                                refine norm_ (a' := ?_) ?_ ?_
                                rotate_left
                                · show Act.put _ (some 17) _ = _
                                  simp only [Act.put, List.setIfInBounds_toArray, List.set_cons_zero, List.set_cons_succ, i64_w, i32_w]
                                  rfl
                                exact norm0_ (hJ0_4 (.slice (some adz_v215) y214.length co18, adz_v215) _ ⟨(by (with_reducible repeat (first | apply Kd.R_alloc | apply Kd.R_drewN | apply Kd.R_drew)); exact HO216.out), ⟨_, rfl⟩, (pk BK213), (by repeat (first | (with_reducible first | exact HB.out | apply below_alloc | apply pw_below_drewN | apply below_drew1 | refine below_set ?_ GE213.out) | exact HB.out))⟩)
                              · skip
                                refine Kd.R_lit_step Kd.string _ 9 ?hg (N := 18) ?hd (xs := ([(⟨#[119, 101, 98]⟩ : ByteArray), (⟨#[97, 112, 105]⟩ : ByteArray), (⟨#[97, 45, 98]⟩ : ByteArray)] : List ByteArray)) (inner := [.string (⟨#[119, 101, 98]⟩ : ByteArray), .string (⟨#[97, 112, 105]⟩ : ByteArray), .string (⟨#[97, 45, 98]⟩ : ByteArray)]) (ok := fun _ => True) (okp := fun _ => True) ?hr ?hp (fun _ hk => hk) trivial (Below.refl _ _) (Nat.le_refl _) (by simp) ?_; (case hd => rfl); (case hg => rfl); (case hr => first | (go_simp; done) | (go_simp; rfl)); (case hp => exact (Reps.one (show Kd.M Kd.string _ _ _ (⟨#[119, 101, 98]⟩ : ByteArray) [.string (⟨#[119, 101, 98]⟩ : ByteArray)] from rfl) (Reps.one (show Kd.M Kd.string _ _ _ (⟨#[97, 112, 105]⟩ : ByteArray) [.string (⟨#[97, 112, 105]⟩ : ByteArray)] from rfl) (Reps.one (show Kd.M Kd.string _ _ _ (⟨#[97, 45, 98]⟩ : ByteArray) [.string (⟨#[97, 45, 98]⟩ : ByteArray)] from rfl) (Reps.none _ _)))))
                                intro v219 w19 ho20 hb hg_ hnew_
                                clear hg_ hnew_
                                (first | rw [← Ny218.out] at ho20 | (simp only [Int.reduceToNat] at ho20; rw [← Ny218.out] at ho20))
                                have HO220 := Aside0.mk (Kd.R_lower (Kd.R_new' ho20 (Kd.R_lt (by (with_reducible repeat (first | apply Kd.R_alloc | apply Kd.R_drewN | apply Kd.R_drew)); exact HO216.out))) (below_size (by repeat (first | (with_reducible first | exact HB.out | apply below_alloc | apply pw_below_drewN | apply below_drew1 | refine below_set ?_ GE213.out) | exact HB.out))))
                                replace HO216 := Aside0.mk (Kd.R_elder' (by (with_reducible repeat (first | apply Kd.R_alloc | apply Kd.R_drewN | apply Kd.R_drew)); exact HO216.out) (Kd.R_base ho20) hb)
                                replace BK213 := Aside0.mk (blk_below (g := gb213) (pk BK213) hb)
                                replace HB := Aside0.mk (below_step (by repeat (first | (with_reducible first | exact HB.out | apply below_alloc | apply pw_below_drewN | apply below_drew1 | refine below_set ?_ GE213.out) | exact HB.out)) hb)
                                clear hb ho20
                                obtain ⟨Ao21, co21, eo21⟩ := Kd.R_slice HO220.out
                                subst eo21
                                obtain ⟨ado21, fo21, _⟩ := Kd.at_string (Kd.R_reads' HO220.out).2.2 0 (by decide) (by rw [Ny218.out]; simp)
                                cases fo21
                                refine hK.out _ _ trivial (fun hHeld => ?_)
                                clear hK K
                                refine norm_ (a' := ?_) ?_ ?_
                                rotate_left
                                · show Act.put _ (some 18) _ = _
                                  simp only [Act.put, List.setIfInBounds_toArray, List.set_cons_zero, List.set_cons_succ, i64_w, i32_w]
                                  rfl
                                refine pure_ (i := 9) (N := some 22) (v := ?_) (a' := ?_) #[true, true, true, true, false, true, true, true, true, true, false, true, true, false, false, false] rfl rfl (any_of HT_.out (by kernel_rfl)) (fun _ _ _ h => h) (Or.inl ⟨by rfl, ?_⟩) ?_ ?_
                                rotate_left
                                · intro w'
                                  go_simp
                                  with_reducible rfl
                                rotate_left
                                · simp only [Act.put, List.setIfInBounds_toArray, List.set_cons_zero, List.set_cons_succ, i64_w, i32_w]
                                  rfl
                                exact norm0_ (hJ0_5 (.slice (some adz_v215) y214.length co18, adz_v215, .slice (some ado21) y218.length co21, ado21) _ ⟨(by (with_reducible repeat (first | apply Kd.R_alloc | apply Kd.R_drewN | apply Kd.R_drew)); exact Kd.R_mono HO216.out (fun _ hk => hk.2)), (by (with_reducible repeat (first | apply Kd.R_alloc | apply Kd.R_drewN | apply Kd.R_drew)); exact Kd.R_mono HO220.out (fun _ hk => hk.2)), ⟨_, rfl⟩, ⟨_, rfl⟩, (pk BK213), (by repeat (first | (with_reducible first | exact HB.out | apply below_alloc | apply pw_below_drewN | apply below_drew1 | refine below_set ?_ GE213.out) | exact HB.out))⟩)
                              · skip
                                refine box_step ?hg (N := 7) ?hd (cs := #[.string (⟨#[]⟩ : ByteArray), .string (⟨#[]⟩ : ByteArray), .slice none 0 0, .int .i64 0]) (t := 26) ?hr ?_; (case hd => rfl); (case hg => rfl); (case hr => first | (go_simp; done) | (go_simp; rfl))
                                intro gb222 hg w19 hbox hb
                                have BK222 := Aside0.mk (hbox)
                                have GW222 := Aside0.mk ((by rw [hg]; exact (below_size (by repeat (first | (with_reducible first | exact HB.out | apply below_alloc | apply pw_below_drewN | apply below_drew1 | refine below_set ?_ GE213.out) | exact HB.out))) : w.heap.size ≤ gb222))
                                have GE222 := GW222
                                have NB213_222 := Aside0.mk ((ne_lt hg (pk BK213) : gb213 ≠ gb222))
                                have NB222_213 := Aside0.mk ((ne_gt hg (pk BK213) : gb222 ≠ gb213))
                                replace HO216 := Aside0.mk (Kd.R_below (by (with_reducible repeat (first | apply Kd.R_alloc | apply Kd.R_drewN | apply Kd.R_drew)); exact HO216.out) hb)
                                replace BK213 := Aside0.mk (blk_below (g := gb213) (pk BK213) hb)
                                replace HB := Aside0.mk (below_step (by repeat (first | (with_reducible first | exact HB.out | apply below_alloc | apply pw_below_drewN | apply below_drew1 | refine below_set ?_ GE213.out) | exact HB.out)) hb)
                                clear hb hbox hg
                                refine hK.out _ _ trivial (fun hHeld => ?_)
                                clear hK K
                                refine norm_ (a' := ?_) ?_ ?_
                                rotate_left
                                · show Act.put _ (some 7) _ = _
                                  simp only [Act.put, List.setIfInBounds_toArray, List.set_cons_zero, List.set_cons_succ, i64_w, i32_w]
                                  rfl
                                exact norm0_ (hJ0_14 (.slice (some adz_v215) y214.length co18, adz_v215, gb222) _ ⟨(by (with_reducible repeat (first | apply Kd.R_alloc | apply Kd.R_drewN | apply Kd.R_drew)); exact HO216.out), ⟨_, rfl⟩, (pk BK213), (pk BK222), GW222.out, GE222.out, NB213_222.out, NB222_213.out, (by repeat (first | (with_reducible first | exact HB.out | apply below_alloc | apply pw_below_drewN | apply below_drew1 | refine below_set ?_ GE213.out | refine below_set ?_ GE222.out) | exact HB.out))⟩)
                          · skip
                            rintro ⟨v219, adz_v219, gb222⟩ w18 ⟨h0_, h1_, h2_, h3_, h4_, h5_, h6_, h7_, h8_⟩
                            have HO220 : Aside0 (Kd.R Kd.string 9 w18 w.heap.size (fun _ => True) v219 y218) := ⟨h0_⟩
                            have HA_HO220 : Aside0 (∃ c_, (v219 : Value) = .slice (some adz_v219) y218.length c_) := ⟨h1_⟩
                            have BK222 : Aside0 (w18.heap[gb222]? = some (.cells #[.string (⟨#[]⟩ : ByteArray), .string (⟨#[]⟩ : ByteArray), .slice none 0 0, .int .i64 0] 26 (0, 0))) := ⟨h3_⟩
                            have GW222 : Aside0 (w.heap.size ≤ gb222) := ⟨h4_⟩
                            have GE222 : Aside0 (w.heap.size ≤ gb222) := ⟨h5_⟩
                            have NB213_222 : Aside0 (gb213 ≠ gb222) := ⟨h6_⟩
                            have NB222_213 : Aside0 (gb222 ≠ gb213) := ⟨h7_⟩
                            replace BK213 := Aside0.mk h2_
                            replace HB : Aside0 (Below w.heap.size w w18) := ⟨h8_⟩
                            clear h0_ h1_ h2_ h3_ h4_ h5_ h6_ h7_ h8_
                            have hHeld := trivial
                            obtain ⟨co19, eo19⟩ := HA_HO220.out
                            clear HA_HO220
                            subst eo19
                            refine norm_ (a' := ?_) ?_ ?_
                            rotate_left
                            · simp only [putAll, Act.put, List.setIfInBounds_toArray, List.set_cons_zero, List.set_cons_succ]
                              rfl
                            refine two_ (i := 0) (j := 10) (Ni := some 13) (Nj := some 23) #[true, true, true, false, false, true, true, true, true, true, false, true, true, false, true, false] #[false, true, true, false, false, true, true, true, true, true, true, true, true, false, true, false] rfl rfl rfl rfl (two_of HT_.out (by kernel_rfl)) (by decide) (by decide) (fun K hK => ?_) (fun K hK => ?_)
                            · skip
                              refine Kd.R_lit_step Kd.string _ 9 ?hg (N := 13) ?hd (xs := ([(⟨#[102, 114, 111, 110, 116]⟩ : ByteArray), (⟨#[98, 97, 99, 107]⟩ : ByteArray), (⟨#[114, 45, 49]⟩ : ByteArray)] : List ByteArray)) (inner := [.string (⟨#[102, 114, 111, 110, 116]⟩ : ByteArray), .string (⟨#[98, 97, 99, 107]⟩ : ByteArray), .string (⟨#[114, 45, 49]⟩ : ByteArray)]) (ok := fun _ => True) (okp := fun _ => True) ?hr ?hp (fun _ hk => hk) trivial (Below.refl _ _) (Nat.le_refl _) (by simp) ?_; (case hd => rfl); (case hg => rfl); (case hr => first | (go_simp; done) | (go_simp; rfl)); (case hp => exact (Reps.one (show Kd.M Kd.string _ _ _ (⟨#[102, 114, 111, 110, 116]⟩ : ByteArray) [.string (⟨#[102, 114, 111, 110, 116]⟩ : ByteArray)] from rfl) (Reps.one (show Kd.M Kd.string _ _ _ (⟨#[98, 97, 99, 107]⟩ : ByteArray) [.string (⟨#[98, 97, 99, 107]⟩ : ByteArray)] from rfl) (Reps.one (show Kd.M Kd.string _ _ _ (⟨#[114, 45, 49]⟩ : ByteArray) [.string (⟨#[114, 45, 49]⟩ : ByteArray)] from rfl) (Reps.none _ _)))))
                              intro v215 w20 ho21 hb hg_ hnew_
                              clear hg_ hnew_
                              (first | rw [← Ny214.out] at ho21 | (simp only [Int.reduceToNat] at ho21; rw [← Ny214.out] at ho21))
                              have HO216 := Aside0.mk (Kd.R_lower (Kd.R_new' ho21 (Kd.R_lt (by (with_reducible repeat (first | apply Kd.R_alloc | apply Kd.R_drewN | apply Kd.R_drew)); exact HO220.out))) (below_size (by repeat (first | (with_reducible first | exact HB.out | apply below_alloc | apply pw_below_drewN | apply below_drew1 | refine below_set ?_ GE213.out | refine below_set ?_ GE222.out) | exact HB.out))))
                              replace HO220 := Aside0.mk (Kd.R_elder' (by (with_reducible repeat (first | apply Kd.R_alloc | apply Kd.R_drewN | apply Kd.R_drew)); exact HO220.out) (Kd.R_base ho21) hb)
                              replace BK213 := Aside0.mk (blk_below (g := gb213) (pk BK213) hb)
                              replace BK222 := Aside0.mk (blk_below (g := gb222) (pk BK222) hb)
                              replace HB := Aside0.mk (below_step (by repeat (first | (with_reducible first | exact HB.out | apply below_alloc | apply pw_below_drewN | apply below_drew1 | refine below_set ?_ GE213.out | refine below_set ?_ GE222.out) | exact HB.out)) hb)
                              clear hb ho21
                              obtain ⟨Ao22, co22, eo22⟩ := Kd.R_slice HO216.out
                              subst eo22
                              obtain ⟨ado22, fo22, _⟩ := Kd.at_string (Kd.R_reads' HO216.out).2.2 0 (by decide) (by rw [Ny214.out]; simp)
                              cases fo22
                              refine hK.out _ _ trivial (fun hHeld => ?_)
                              clear hK K
                              refine norm_ (a' := ?_) ?_ ?_
                              rotate_left
                              · show Act.put _ (some 13) _ = _
                                simp only [Act.put, List.setIfInBounds_toArray, List.set_cons_zero, List.set_cons_succ, i64_w, i32_w]
                                rfl
                              refine pure_ (i := 3) (N := some 16) (v := ?_) (a' := ?_) #[true, true, true, true, false, true, true, true, true, true, false, true, true, false, true, false] rfl rfl (any_of HT_.out (by kernel_rfl)) (fun _ _ _ h => h) (Or.inl ⟨by rfl, ?_⟩) ?_ ?_
                              rotate_left
                              · intro w'
                                go_simp
                                with_reducible rfl
                              rotate_left
                              · simp only [Act.put, List.setIfInBounds_toArray, List.set_cons_zero, List.set_cons_succ, i64_w, i32_w]
                                rfl
                              exact norm0_ (hJ0_5_14 (.slice (some ado22) y214.length co22, ado22, .slice (some adz_v219) y218.length co19, adz_v219, gb222) _ ⟨(by (with_reducible repeat (first | apply Kd.R_alloc | apply Kd.R_drewN | apply Kd.R_drew)); exact Kd.R_mono HO216.out (fun _ hk => hk.2)), (by (with_reducible repeat (first | apply Kd.R_alloc | apply Kd.R_drewN | apply Kd.R_drew)); exact Kd.R_mono HO220.out (fun _ hk => hk.2)), ⟨_, rfl⟩, ⟨_, rfl⟩, (pk BK213), (pk BK222), GW222.out, GE222.out, NB213_222.out, NB222_213.out, (by repeat (first | (with_reducible first | exact HB.out | apply below_alloc | apply pw_below_drewN | apply below_drew1 | refine below_set ?_ GE213.out | refine below_set ?_ GE222.out) | exact HB.out))⟩)
                            · skip
                              (have p221 : 0 ≤ ((ji7) : Int) := of_decide_eq_true (by first | (with_reducible assumption) | assumption); have q221 : (ji7) < (y218.length : Int) := of_decide_eq_true (by first | (with_reducible assumption) | assumption); obtain ⟨ad221, e221, hx221_0⟩ := Kd.at_string (Kd.R_reads' HO220.out).2.2 (ji7) p221 q221; obtain rfl : adz_v219 = ad221 := (by injection e221))
                              with_reducible_and_instances refine value_ (w1 := ?_) (v := ?_) ?hw_ ?hN_ ?_ ?_
                              (case hw_ => rfl)
                              (case hN_ => rfl)
                              rotate_left 2
                              · go_simp
                                constructor
                                · rfl
                                · rfl
                              clear hx221_0
                              refine hK.out _ _ trivial (fun hHeld => ?_)
                              clear hK K
                              refine norm_ (a' := ?_) ?_ ?_
                              rotate_left
                              · show Act.put _ (some 23) _ = _
                                simp only [Act.put, List.setIfInBounds_toArray, List.set_cons_zero, List.set_cons_succ, i64_w, i32_w]
                                rfl
                              exact norm0_ (hJ5_10_14 (.slice (some adz_v219) y218.length co19, adz_v219, gb222) _ ⟨(by (with_reducible repeat (first | apply Kd.R_alloc | apply Kd.R_drewN | apply Kd.R_drew)); exact HO220.out), ⟨_, rfl⟩, (pk BK213), (pk BK222), GW222.out, GE222.out, NB213_222.out, NB222_213.out, (by repeat (first | (with_reducible first | exact HB.out | apply below_alloc | apply pw_below_drewN | apply below_drew1 | refine below_set ?_ GE213.out | refine below_set ?_ GE222.out) | exact HB.out))⟩)
                        · skip
                          rintro ⟨v219, adz_v219⟩ w17 ⟨h0_, h1_, h2_, h3_⟩
                          have HO220 : Aside0 (Kd.R Kd.string 9 w17 w.heap.size (fun _ => True) v219 y218) := ⟨h0_⟩
                          have HA_HO220 : Aside0 (∃ c_, (v219 : Value) = .slice (some adz_v219) y218.length c_) := ⟨h1_⟩
                          replace BK213 := Aside0.mk h2_
                          replace HB : Aside0 (Below w.heap.size w w17) := ⟨h3_⟩
                          clear h0_ h1_ h2_ h3_
                          have hHeld := trivial
                          obtain ⟨co18, eo18⟩ := HA_HO220.out
                          clear HA_HO220
                          subst eo18
                          refine norm_ (a' := ?_) ?_ ?_
                          rotate_left
                          · simp only [putAll, Act.put, List.setIfInBounds_toArray, List.set_cons_zero, List.set_cons_succ]
                            rfl
                          refine two_ (i := 0) (j := 14) (Ni := some 13) (Nj := some 7) #[true, true, true, false, false, true, true, true, true, true, true, true, true, false, false, false] #[false, true, true, false, false, true, true, true, true, true, true, true, true, false, true, false] rfl rfl rfl rfl (two_of HT_.out (by kernel_rfl)) (by decide) (by decide) (fun K hK => ?_) (fun K hK => ?_)
                          · skip
                            refine Kd.R_lit_step Kd.string _ 9 ?hg (N := 13) ?hd (xs := ([(⟨#[102, 114, 111, 110, 116]⟩ : ByteArray), (⟨#[98, 97, 99, 107]⟩ : ByteArray), (⟨#[114, 45, 49]⟩ : ByteArray)] : List ByteArray)) (inner := [.string (⟨#[102, 114, 111, 110, 116]⟩ : ByteArray), .string (⟨#[98, 97, 99, 107]⟩ : ByteArray), .string (⟨#[114, 45, 49]⟩ : ByteArray)]) (ok := fun _ => True) (okp := fun _ => True) ?hr ?hp (fun _ hk => hk) trivial (Below.refl _ _) (Nat.le_refl _) (by simp) ?_; (case hd => rfl); (case hg => rfl); (case hr => first | (go_simp; done) | (go_simp; rfl)); (case hp => exact (Reps.one (show Kd.M Kd.string _ _ _ (⟨#[102, 114, 111, 110, 116]⟩ : ByteArray) [.string (⟨#[102, 114, 111, 110, 116]⟩ : ByteArray)] from rfl) (Reps.one (show Kd.M Kd.string _ _ _ (⟨#[98, 97, 99, 107]⟩ : ByteArray) [.string (⟨#[98, 97, 99, 107]⟩ : ByteArray)] from rfl) (Reps.one (show Kd.M Kd.string _ _ _ (⟨#[114, 45, 49]⟩ : ByteArray) [.string (⟨#[114, 45, 49]⟩ : ByteArray)] from rfl) (Reps.none _ _)))))
                            intro v215 w19 ho20 hb hg_ hnew_
                            clear hg_ hnew_
                            (first | rw [← Ny214.out] at ho20 | (simp only [Int.reduceToNat] at ho20; rw [← Ny214.out] at ho20))
                            have HO216 := Aside0.mk (Kd.R_lower (Kd.R_new' ho20 (Kd.R_lt (by (with_reducible repeat (first | apply Kd.R_alloc | apply Kd.R_drewN | apply Kd.R_drew)); exact HO220.out))) (below_size (by repeat (first | (with_reducible first | exact HB.out | apply below_alloc | apply pw_below_drewN | apply below_drew1 | refine below_set ?_ GE213.out) | exact HB.out))))
                            replace HO220 := Aside0.mk (Kd.R_elder' (by (with_reducible repeat (first | apply Kd.R_alloc | apply Kd.R_drewN | apply Kd.R_drew)); exact HO220.out) (Kd.R_base ho20) hb)
                            replace BK213 := Aside0.mk (blk_below (g := gb213) (pk BK213) hb)
                            replace HB := Aside0.mk (below_step (by repeat (first | (with_reducible first | exact HB.out | apply below_alloc | apply pw_below_drewN | apply below_drew1 | refine below_set ?_ GE213.out) | exact HB.out)) hb)
                            clear hb ho20
                            obtain ⟨Ao21, co21, eo21⟩ := Kd.R_slice HO216.out
                            subst eo21
                            obtain ⟨ado21, fo21, _⟩ := Kd.at_string (Kd.R_reads' HO216.out).2.2 0 (by decide) (by rw [Ny214.out]; simp)
                            cases fo21
                            refine hK.out _ _ trivial (fun hHeld => ?_)
                            clear hK K
                            refine norm_ (a' := ?_) ?_ ?_
                            rotate_left
                            · show Act.put _ (some 13) _ = _
                              simp only [Act.put, List.setIfInBounds_toArray, List.set_cons_zero, List.set_cons_succ, i64_w, i32_w]
                              rfl
                            refine pure_ (i := 3) (N := some 16) (v := ?_) (a' := ?_) #[true, true, true, true, false, true, true, true, true, true, true, true, true, false, false, false] rfl rfl (any_of HT_.out (by kernel_rfl)) (fun _ _ _ h => h) (Or.inl ⟨by rfl, ?_⟩) ?_ ?_
                            rotate_left
                            · intro w'
                              go_simp
                              with_reducible rfl
                            rotate_left
                            · simp only [Act.put, List.setIfInBounds_toArray, List.set_cons_zero, List.set_cons_succ, i64_w, i32_w]
                              rfl
                            exact norm0_ (hJ0_5_10 (.slice (some ado21) y214.length co21, ado21, .slice (some adz_v219) y218.length co18, adz_v219) _ ⟨(by (with_reducible repeat (first | apply Kd.R_alloc | apply Kd.R_drewN | apply Kd.R_drew)); exact Kd.R_mono HO216.out (fun _ hk => hk.2)), (by (with_reducible repeat (first | apply Kd.R_alloc | apply Kd.R_drewN | apply Kd.R_drew)); exact Kd.R_mono HO220.out (fun _ hk => hk.2)), ⟨_, rfl⟩, ⟨_, rfl⟩, (pk BK213), (by repeat (first | (with_reducible first | exact HB.out | apply below_alloc | apply pw_below_drewN | apply below_drew1 | refine below_set ?_ GE213.out) | exact HB.out))⟩)
                          · skip
                            refine box_step ?hg (N := 7) ?hd (cs := #[.string (⟨#[]⟩ : ByteArray), .string (⟨#[]⟩ : ByteArray), .slice none 0 0, .int .i64 0]) (t := 26) ?hr ?_; (case hd => rfl); (case hg => rfl); (case hr => first | (go_simp; done) | (go_simp; rfl))
                            intro gb222 hg w19 hbox hb
                            have BK222 := Aside0.mk (hbox)
                            have GW222 := Aside0.mk ((by rw [hg]; exact (below_size (by repeat (first | (with_reducible first | exact HB.out | apply below_alloc | apply pw_below_drewN | apply below_drew1 | refine below_set ?_ GE213.out) | exact HB.out))) : w.heap.size ≤ gb222))
                            have GE222 := GW222
                            have NB213_222 := Aside0.mk ((ne_lt hg (pk BK213) : gb213 ≠ gb222))
                            have NB222_213 := Aside0.mk ((ne_gt hg (pk BK213) : gb222 ≠ gb213))
                            replace HO220 := Aside0.mk (Kd.R_below (by (with_reducible repeat (first | apply Kd.R_alloc | apply Kd.R_drewN | apply Kd.R_drew)); exact HO220.out) hb)
                            replace BK213 := Aside0.mk (blk_below (g := gb213) (pk BK213) hb)
                            replace HB := Aside0.mk (below_step (by repeat (first | (with_reducible first | exact HB.out | apply below_alloc | apply pw_below_drewN | apply below_drew1 | refine below_set ?_ GE213.out) | exact HB.out)) hb)
                            clear hb hbox hg
                            refine hK.out _ _ trivial (fun hHeld => ?_)
                            clear hK K
                            refine norm_ (a' := ?_) ?_ ?_
                            rotate_left
                            · show Act.put _ (some 7) _ = _
                              simp only [Act.put, List.setIfInBounds_toArray, List.set_cons_zero, List.set_cons_succ, i64_w, i32_w]
                              rfl
                            exact norm0_ (hJ5_10_14 (.slice (some adz_v219) y218.length co18, adz_v219, gb222) _ ⟨(by (with_reducible repeat (first | apply Kd.R_alloc | apply Kd.R_drewN | apply Kd.R_drew)); exact HO220.out), ⟨_, rfl⟩, (pk BK213), (pk BK222), GW222.out, GE222.out, NB213_222.out, NB222_213.out, (by repeat (first | (with_reducible first | exact HB.out | apply below_alloc | apply pw_below_drewN | apply below_drew1 | refine below_set ?_ GE213.out | refine below_set ?_ GE222.out) | exact HB.out))⟩)
                      · skip
                        rintro ⟨v215, adz_v215, gb222⟩ w18 ⟨h0_, h1_, h2_, h3_, h4_, h5_, h6_, h7_, h8_⟩
                        have HO216 : Aside0 (Kd.R Kd.string 9 w18 w.heap.size (fun _ => True) v215 y214) := ⟨h0_⟩
                        have HA_HO216 : Aside0 (∃ c_, (v215 : Value) = .slice (some adz_v215) y214.length c_) := ⟨h1_⟩
                        have BK222 : Aside0 (w18.heap[gb222]? = some (.cells #[.string (⟨#[]⟩ : ByteArray), .string (⟨#[]⟩ : ByteArray), .slice none 0 0, .int .i64 0] 26 (0, 0))) := ⟨h3_⟩
                        have GW222 : Aside0 (w.heap.size ≤ gb222) := ⟨h4_⟩
                        have GE222 : Aside0 (w.heap.size ≤ gb222) := ⟨h5_⟩
                        have NB213_222 : Aside0 (gb213 ≠ gb222) := ⟨h6_⟩
                        have NB222_213 : Aside0 (gb222 ≠ gb213) := ⟨h7_⟩
                        replace BK213 := Aside0.mk h2_
                        replace HB : Aside0 (Below w.heap.size w w18) := ⟨h8_⟩
                        clear h0_ h1_ h2_ h3_ h4_ h5_ h6_ h7_ h8_
                        have hHeld := trivial
                        obtain ⟨co19, eo19⟩ := HA_HO216.out
                        clear HA_HO216
                        subst eo19
                        refine norm_ (a' := ?_) ?_ ?_
                        rotate_left
                        · simp only [putAll, Act.put, List.setIfInBounds_toArray, List.set_cons_zero, List.set_cons_succ]
                          rfl
                        refine two_ (i := 4) (j := 5) (Ni := some 17) (Nj := some 18) #[true, true, true, true, true, false, true, true, true, false, false, true, true, false, true, false] #[true, true, true, true, false, true, true, true, true, false, false, true, true, false, true, false] rfl rfl rfl rfl (two_of HT_.out (by kernel_rfl)) (by decide) (by decide) (fun K hK => ?_) (fun K hK => ?_)
                        · skip
                          (have p217 : 0 ≤ ((ji4) : Int) := of_decide_eq_true (by first | (with_reducible assumption) | assumption); have q217 : (ji4) < (y214.length : Int) := of_decide_eq_true (by first | (with_reducible assumption) | assumption); obtain ⟨ad217, e217, hx217_0⟩ := Kd.at_string (Kd.R_reads' HO216.out).2.2 (ji4) p217 q217; obtain rfl : adz_v215 = ad217 := (by injection e217))
                          with_reducible_and_instances refine value_ (w1 := ?_) (v := ?_) ?hw_ ?hN_ ?_ ?_
                          (case hw_ => rfl)
                          (case hN_ => rfl)
                          rotate_left 2
                          · go_simp
                            constructor
                            · rfl
                            · rfl
                          clear hx217_0
                          refine hK.out _ _ trivial (fun hHeld => ?_)
                          clear hK K
                          refine norm_ (a' := ?_) ?_ ?_
                          rotate_left
                          · show Act.put _ (some 17) _ = _
                            simp only [Act.put, List.setIfInBounds_toArray, List.set_cons_zero, List.set_cons_succ, i64_w, i32_w]
                            rfl
                          exact norm0_ (hJ0_4_14 (.slice (some adz_v215) y214.length co19, adz_v215, gb222) _ ⟨(by (with_reducible repeat (first | apply Kd.R_alloc | apply Kd.R_drewN | apply Kd.R_drew)); exact HO216.out), ⟨_, rfl⟩, (pk BK213), (pk BK222), GW222.out, GE222.out, NB213_222.out, NB222_213.out, (by repeat (first | (with_reducible first | exact HB.out | apply below_alloc | apply pw_below_drewN | apply below_drew1 | refine below_set ?_ GE213.out | refine below_set ?_ GE222.out) | exact HB.out))⟩)
                        · skip
                          refine Kd.R_lit_step Kd.string _ 9 ?hg (N := 18) ?hd (xs := ([(⟨#[119, 101, 98]⟩ : ByteArray), (⟨#[97, 112, 105]⟩ : ByteArray), (⟨#[97, 45, 98]⟩ : ByteArray)] : List ByteArray)) (inner := [.string (⟨#[119, 101, 98]⟩ : ByteArray), .string (⟨#[97, 112, 105]⟩ : ByteArray), .string (⟨#[97, 45, 98]⟩ : ByteArray)]) (ok := fun _ => True) (okp := fun _ => True) ?hr ?hp (fun _ hk => hk) trivial (Below.refl _ _) (Nat.le_refl _) (by simp) ?_; (case hd => rfl); (case hg => rfl); (case hr => first | (go_simp; done) | (go_simp; rfl)); (case hp => exact (Reps.one (show Kd.M Kd.string _ _ _ (⟨#[119, 101, 98]⟩ : ByteArray) [.string (⟨#[119, 101, 98]⟩ : ByteArray)] from rfl) (Reps.one (show Kd.M Kd.string _ _ _ (⟨#[97, 112, 105]⟩ : ByteArray) [.string (⟨#[97, 112, 105]⟩ : ByteArray)] from rfl) (Reps.one (show Kd.M Kd.string _ _ _ (⟨#[97, 45, 98]⟩ : ByteArray) [.string (⟨#[97, 45, 98]⟩ : ByteArray)] from rfl) (Reps.none _ _)))))
                          intro v219 w20 ho21 hb hg_ hnew_
                          clear hg_ hnew_
                          (first | rw [← Ny218.out] at ho21 | (simp only [Int.reduceToNat] at ho21; rw [← Ny218.out] at ho21))
                          have HO220 := Aside0.mk (Kd.R_lower (Kd.R_new' ho21 (Kd.R_lt (by (with_reducible repeat (first | apply Kd.R_alloc | apply Kd.R_drewN | apply Kd.R_drew)); exact HO216.out))) (below_size (by repeat (first | (with_reducible first | exact HB.out | apply below_alloc | apply pw_below_drewN | apply below_drew1 | refine below_set ?_ GE213.out | refine below_set ?_ GE222.out) | exact HB.out))))
                          replace HO216 := Aside0.mk (Kd.R_elder' (by (with_reducible repeat (first | apply Kd.R_alloc | apply Kd.R_drewN | apply Kd.R_drew)); exact HO216.out) (Kd.R_base ho21) hb)
                          replace BK213 := Aside0.mk (blk_below (g := gb213) (pk BK213) hb)
                          replace BK222 := Aside0.mk (blk_below (g := gb222) (pk BK222) hb)
                          replace HB := Aside0.mk (below_step (by repeat (first | (with_reducible first | exact HB.out | apply below_alloc | apply pw_below_drewN | apply below_drew1 | refine below_set ?_ GE213.out | refine below_set ?_ GE222.out) | exact HB.out)) hb)
                          clear hb ho21
                          obtain ⟨Ao22, co22, eo22⟩ := Kd.R_slice HO220.out
                          subst eo22
                          obtain ⟨ado22, fo22, _⟩ := Kd.at_string (Kd.R_reads' HO220.out).2.2 0 (by decide) (by rw [Ny218.out]; simp)
                          cases fo22
                          refine hK.out _ _ trivial (fun hHeld => ?_)
                          clear hK K
                          refine norm_ (a' := ?_) ?_ ?_
                          rotate_left
                          · show Act.put _ (some 18) _ = _
                            simp only [Act.put, List.setIfInBounds_toArray, List.set_cons_zero, List.set_cons_succ, i64_w, i32_w]
                            rfl
                          refine pure_ (i := 9) (N := some 22) (v := ?_) (a' := ?_) #[true, true, true, true, false, true, true, true, true, true, false, true, true, false, true, false] rfl rfl (any_of HT_.out (by kernel_rfl)) (fun _ _ _ h => h) (Or.inl ⟨by rfl, ?_⟩) ?_ ?_
                          rotate_left
                          · intro w'
                            go_simp
                            with_reducible rfl
                          rotate_left
                          · simp only [Act.put, List.setIfInBounds_toArray, List.set_cons_zero, List.set_cons_succ, i64_w, i32_w]
                            rfl
                          exact norm0_ (hJ0_5_14 (.slice (some adz_v215) y214.length co19, adz_v215, .slice (some ado22) y218.length co22, ado22, gb222) _ ⟨(by (with_reducible repeat (first | apply Kd.R_alloc | apply Kd.R_drewN | apply Kd.R_drew)); exact Kd.R_mono HO216.out (fun _ hk => hk.2)), (by (with_reducible repeat (first | apply Kd.R_alloc | apply Kd.R_drewN | apply Kd.R_drew)); exact Kd.R_mono HO220.out (fun _ hk => hk.2)), ⟨_, rfl⟩, ⟨_, rfl⟩, (pk BK213), (pk BK222), GW222.out, GE222.out, NB213_222.out, NB222_213.out, (by repeat (first | (with_reducible first | exact HB.out | apply below_alloc | apply pw_below_drewN | apply below_drew1 | refine below_set ?_ GE213.out | refine below_set ?_ GE222.out) | exact HB.out))⟩)
                    · skip
                      rintro ⟨v215, adz_v215, v219, adz_v219⟩ w20 ⟨h0_, h1_, h2_, h3_, h4_, h5_⟩
                      have HO216 : Aside0 (Kd.R Kd.string 9 w20 w.heap.size (fun k_ => some k_ ≠ (v219 : Value).ownBlock) v215 y214) := ⟨h0_⟩
                      have HO220 : Aside0 (Kd.R Kd.string 9 w20 w.heap.size (fun k_ => some k_ ≠ (v215 : Value).ownBlock) v219 y218) := ⟨h1_⟩
                      have HA_HO216 : Aside0 (∃ c_, (v215 : Value) = .slice (some adz_v215) y214.length c_) := ⟨h2_⟩
                      have HA_HO220 : Aside0 (∃ c_, (v219 : Value) = .slice (some adz_v219) y218.length c_) := ⟨h3_⟩
                      replace BK213 := Aside0.mk h4_
                      replace HB : Aside0 (Below w.heap.size w w20) := ⟨h5_⟩
                      clear h0_ h1_ h2_ h3_ h4_ h5_
                      have hHeld := trivial
                      obtain ⟨co21, eo21⟩ := HA_HO216.out
                      clear HA_HO216
                      subst eo21
                      obtain ⟨co22, eo22⟩ := HA_HO220.out
                      clear HA_HO220
                      subst eo22
                      refine norm_ (a' := ?_) ?_ ?_
                      rotate_left
                      · simp only [putAll, Act.put, List.setIfInBounds_toArray, List.set_cons_zero, List.set_cons_succ]
                        rfl
                      refine three_ (i := 4) (j := 10) (k := 14) (Ni := some 17) (Nj := some 23) (Nk := some 7) #[true, true, true, true, true, true, true, true, true, true, false, true, true, false, false, false] #[true, true, true, true, false, true, true, true, true, true, true, true, true, false, false, false] #[true, true, true, true, false, true, true, true, true, true, false, true, true, false, true, false] rfl rfl rfl rfl rfl rfl (three_of HT_.out (by kernel_rfl)) (by decide) (by decide) (by decide) (fun K hK => ?_) (fun K hK => ?_) (fun K hK => ?_)
                      · skip
                        (have p217 : 0 ≤ ((ji4) : Int) := of_decide_eq_true (by first | (with_reducible assumption) | assumption); have q217 : (ji4) < (y214.length : Int) := of_decide_eq_true (by first | (with_reducible assumption) | assumption); obtain ⟨ad217, e217, hx217_0⟩ := Kd.at_string (Kd.R_reads' HO216.out).2.2 (ji4) p217 q217; obtain rfl : adz_v215 = ad217 := (by injection e217))
                        with_reducible_and_instances refine value_ (w1 := ?_) (v := ?_) ?hw_ ?hN_ ?_ ?_
                        (case hw_ => rfl)
                        (case hN_ => rfl)
                        rotate_left 2
                        · go_simp
                          constructor
                          · rfl
                          · rfl
                        clear hx217_0
                        refine hK.out _ _ trivial (fun hHeld => ?_)
                        clear hK K
                        refine norm_ (a' := ?_) ?_ ?_
                        rotate_left
                        · show Act.put _ (some 17) _ = _
                          simp only [Act.put, List.setIfInBounds_toArray, List.set_cons_zero, List.set_cons_succ, i64_w, i32_w]
                          rfl
                        exact norm0_ (hJ0_4_5 (.slice (some adz_v215) y214.length co21, adz_v215, .slice (some adz_v219) y218.length co22, adz_v219) _ ⟨(by (with_reducible repeat (first | apply Kd.R_alloc | apply Kd.R_drewN | apply Kd.R_drew)); exact HO216.out), (by (with_reducible repeat (first | apply Kd.R_alloc | apply Kd.R_drewN | apply Kd.R_drew)); exact HO220.out), ⟨_, rfl⟩, ⟨_, rfl⟩, (pk BK213), (by repeat (first | (with_reducible first | exact HB.out | apply below_alloc | apply pw_below_drewN | apply below_drew1 | refine below_set ?_ GE213.out) | exact HB.out))⟩)
                      · skip
                        (have p221 : 0 ≤ ((ji7) : Int) := of_decide_eq_true (by first | (with_reducible assumption) | assumption); have q221 : (ji7) < (y218.length : Int) := of_decide_eq_true (by first | (with_reducible assumption) | assumption); obtain ⟨ad221, e221, hx221_0⟩ := Kd.at_string (Kd.R_reads' HO220.out).2.2 (ji7) p221 q221; obtain rfl : adz_v219 = ad221 := (by injection e221))
                        with_reducible_and_instances refine value_ (w1 := ?_) (v := ?_) ?hw_ ?hN_ ?_ ?_
                        (case hw_ => rfl)
                        (case hN_ => rfl)
                        rotate_left 2
                        · go_simp
                          constructor
                          · rfl
                          · rfl
                        clear hx221_0
                        refine hK.out _ _ trivial (fun hHeld => ?_)
                        clear hK K
                        refine norm_ (a' := ?_) ?_ ?_
                        rotate_left
                        · show Act.put _ (some 23) _ = _
                          simp only [Act.put, List.setIfInBounds_toArray, List.set_cons_zero, List.set_cons_succ, i64_w, i32_w]
                          rfl
                        exact norm0_ (hJ0_5_10 (.slice (some adz_v215) y214.length co21, adz_v215, .slice (some adz_v219) y218.length co22, adz_v219) _ ⟨(by (with_reducible repeat (first | apply Kd.R_alloc | apply Kd.R_drewN | apply Kd.R_drew)); exact HO216.out), (by (with_reducible repeat (first | apply Kd.R_alloc | apply Kd.R_drewN | apply Kd.R_drew)); exact HO220.out), ⟨_, rfl⟩, ⟨_, rfl⟩, (pk BK213), (by repeat (first | (with_reducible first | exact HB.out | apply below_alloc | apply pw_below_drewN | apply below_drew1 | refine below_set ?_ GE213.out) | exact HB.out))⟩)
                      · skip
                        refine box_step ?hg (N := 7) ?hd (cs := #[.string (⟨#[]⟩ : ByteArray), .string (⟨#[]⟩ : ByteArray), .slice none 0 0, .int .i64 0]) (t := 26) ?hr ?_; (case hd => rfl); (case hg => rfl); (case hr => first | (go_simp; done) | (go_simp; rfl))
                        intro gb222 hg w23 hbox hb
                        have BK222 := Aside0.mk (hbox)
                        have GW222 := Aside0.mk ((by rw [hg]; exact (below_size (by repeat (first | (with_reducible first | exact HB.out | apply below_alloc | apply pw_below_drewN | apply below_drew1 | refine below_set ?_ GE213.out) | exact HB.out))) : w.heap.size ≤ gb222))
                        have GE222 := GW222
                        have NB213_222 := Aside0.mk ((ne_lt hg (pk BK213) : gb213 ≠ gb222))
                        have NB222_213 := Aside0.mk ((ne_gt hg (pk BK213) : gb222 ≠ gb213))
                        replace HO216 := Aside0.mk (Kd.R_below (by (with_reducible repeat (first | apply Kd.R_alloc | apply Kd.R_drewN | apply Kd.R_drew)); exact HO216.out) hb)
                        replace HO220 := Aside0.mk (Kd.R_below (by (with_reducible repeat (first | apply Kd.R_alloc | apply Kd.R_drewN | apply Kd.R_drew)); exact HO220.out) hb)
                        replace BK213 := Aside0.mk (blk_below (g := gb213) (pk BK213) hb)
                        replace HB := Aside0.mk (below_step (by repeat (first | (with_reducible first | exact HB.out | apply below_alloc | apply pw_below_drewN | apply below_drew1 | refine below_set ?_ GE213.out) | exact HB.out)) hb)
                        clear hb hbox hg
                        refine hK.out _ _ trivial (fun hHeld => ?_)
                        clear hK K
                        refine norm_ (a' := ?_) ?_ ?_
                        rotate_left
                        · show Act.put _ (some 7) _ = _
                          simp only [Act.put, List.setIfInBounds_toArray, List.set_cons_zero, List.set_cons_succ, i64_w, i32_w]
                          rfl
                        exact norm0_ (hJ0_5_14 (.slice (some adz_v215) y214.length co21, adz_v215, .slice (some adz_v219) y218.length co22, adz_v219, gb222) _ ⟨(by (with_reducible repeat (first | apply Kd.R_alloc | apply Kd.R_drewN | apply Kd.R_drew)); exact HO216.out), (by (with_reducible repeat (first | apply Kd.R_alloc | apply Kd.R_drewN | apply Kd.R_drew)); exact HO220.out), ⟨_, rfl⟩, ⟨_, rfl⟩, (pk BK213), (pk BK222), GW222.out, GE222.out, NB213_222.out, NB222_213.out, (by repeat (first | (with_reducible first | exact HB.out | apply below_alloc | apply pw_below_drewN | apply below_drew1 | refine below_set ?_ GE213.out | refine below_set ?_ GE222.out) | exact HB.out))⟩)
                  · skip
                    rintro ⟨v215, adz_v215⟩ w17 ⟨h0_, h1_, h2_, h3_⟩
                    have HO216 : Aside0 (Kd.R Kd.string 9 w17 w.heap.size (fun _ => True) v215 y214) := ⟨h0_⟩
                    have HA_HO216 : Aside0 (∃ c_, (v215 : Value) = .slice (some adz_v215) y214.length c_) := ⟨h1_⟩
                    replace BK213 := Aside0.mk h2_
                    replace HB : Aside0 (Below w.heap.size w w17) := ⟨h3_⟩
                    clear h0_ h1_ h2_ h3_
                    have hHeld := trivial
                    obtain ⟨co18, eo18⟩ := HA_HO216.out
                    clear HA_HO216
                    subst eo18
                    refine norm_ (a' := ?_) ?_ ?_
                    rotate_left
                    · simp only [putAll, Act.put, List.setIfInBounds_toArray, List.set_cons_zero, List.set_cons_succ]
                      rfl
                    refine two_ (i := 5) (j := 14) (Ni := some 18) (Nj := some 7) #[true, true, true, true, true, true, true, true, true, false, false, true, true, false, false, false] #[true, true, true, true, true, false, true, true, true, false, false, true, true, false, true, false] rfl rfl rfl rfl (two_of HT_.out (by kernel_rfl)) (by decide) (by decide) (fun K hK => ?_) (fun K hK => ?_)
                    · skip
                      refine Kd.R_lit_step Kd.string _ 9 ?hg (N := 18) ?hd (xs := ([(⟨#[119, 101, 98]⟩ : ByteArray), (⟨#[97, 112, 105]⟩ : ByteArray), (⟨#[97, 45, 98]⟩ : ByteArray)] : List ByteArray)) (inner := [.string (⟨#[119, 101, 98]⟩ : ByteArray), .string (⟨#[97, 112, 105]⟩ : ByteArray), .string (⟨#[97, 45, 98]⟩ : ByteArray)]) (ok := fun _ => True) (okp := fun _ => True) ?hr ?hp (fun _ hk => hk) trivial (Below.refl _ _) (Nat.le_refl _) (by simp) ?_; (case hd => rfl); (case hg => rfl); (case hr => first | (go_simp; done) | (go_simp; rfl)); (case hp => exact (Reps.one (show Kd.M Kd.string _ _ _ (⟨#[119, 101, 98]⟩ : ByteArray) [.string (⟨#[119, 101, 98]⟩ : ByteArray)] from rfl) (Reps.one (show Kd.M Kd.string _ _ _ (⟨#[97, 112, 105]⟩ : ByteArray) [.string (⟨#[97, 112, 105]⟩ : ByteArray)] from rfl) (Reps.one (show Kd.M Kd.string _ _ _ (⟨#[97, 45, 98]⟩ : ByteArray) [.string (⟨#[97, 45, 98]⟩ : ByteArray)] from rfl) (Reps.none _ _)))))
                      intro v219 w19 ho20 hb hg_ hnew_
                      clear hg_ hnew_
                      (first | rw [← Ny218.out] at ho20 | (simp only [Int.reduceToNat] at ho20; rw [← Ny218.out] at ho20))
                      have HO220 := Aside0.mk (Kd.R_lower (Kd.R_new' ho20 (Kd.R_lt (by (with_reducible repeat (first | apply Kd.R_alloc | apply Kd.R_drewN | apply Kd.R_drew)); exact HO216.out))) (below_size (by repeat (first | (with_reducible first | exact HB.out | apply below_alloc | apply pw_below_drewN | apply below_drew1 | refine below_set ?_ GE213.out) | exact HB.out))))
                      replace HO216 := Aside0.mk (Kd.R_elder' (by (with_reducible repeat (first | apply Kd.R_alloc | apply Kd.R_drewN | apply Kd.R_drew)); exact HO216.out) (Kd.R_base ho20) hb)
                      replace BK213 := Aside0.mk (blk_below (g := gb213) (pk BK213) hb)
                      replace HB := Aside0.mk (below_step (by repeat (first | (with_reducible first | exact HB.out | apply below_alloc | apply pw_below_drewN | apply below_drew1 | refine below_set ?_ GE213.out) | exact HB.out)) hb)
                      clear hb ho20
                      obtain ⟨Ao21, co21, eo21⟩ := Kd.R_slice HO220.out
                      subst eo21
                      obtain ⟨ado21, fo21, _⟩ := Kd.at_string (Kd.R_reads' HO220.out).2.2 0 (by decide) (by rw [Ny218.out]; simp)
                      cases fo21
                      refine hK.out _ _ trivial (fun hHeld => ?_)
                      clear hK K
                      refine norm_ (a' := ?_) ?_ ?_
                      rotate_left
                      · show Act.put _ (some 18) _ = _
                        simp only [Act.put, List.setIfInBounds_toArray, List.set_cons_zero, List.set_cons_succ, i64_w, i32_w]
                        rfl
                      refine pure_ (i := 9) (N := some 22) (v := ?_) (a' := ?_) #[true, true, true, true, true, true, true, true, true, true, false, true, true, false, false, false] rfl rfl (any_of HT_.out (by kernel_rfl)) (fun _ _ _ h => h) (Or.inl ⟨by rfl, ?_⟩) ?_ ?_
                      rotate_left
                      · intro w'
                        go_simp
                        with_reducible rfl
                      rotate_left
                      · simp only [Act.put, List.setIfInBounds_toArray, List.set_cons_zero, List.set_cons_succ, i64_w, i32_w]
                        rfl
                      exact norm0_ (hJ0_4_5 (.slice (some adz_v215) y214.length co18, adz_v215, .slice (some ado21) y218.length co21, ado21) _ ⟨(by (with_reducible repeat (first | apply Kd.R_alloc | apply Kd.R_drewN | apply Kd.R_drew)); exact Kd.R_mono HO216.out (fun _ hk => hk.2)), (by (with_reducible repeat (first | apply Kd.R_alloc | apply Kd.R_drewN | apply Kd.R_drew)); exact Kd.R_mono HO220.out (fun _ hk => hk.2)), ⟨_, rfl⟩, ⟨_, rfl⟩, (pk BK213), (by repeat (first | (with_reducible first | exact HB.out | apply below_alloc | apply pw_below_drewN | apply below_drew1 | refine below_set ?_ GE213.out) | exact HB.out))⟩)
                    · skip
                      refine box_step ?hg (N := 7) ?hd (cs := #[.string (⟨#[]⟩ : ByteArray), .string (⟨#[]⟩ : ByteArray), .slice none 0 0, .int .i64 0]) (t := 26) ?hr ?_; (case hd => rfl); (case hg => rfl); (case hr => first | (go_simp; done) | (go_simp; rfl))
                      intro gb222 hg w19 hbox hb
                      have BK222 := Aside0.mk (hbox)
                      have GW222 := Aside0.mk ((by rw [hg]; exact (below_size (by repeat (first | (with_reducible first | exact HB.out | apply below_alloc | apply pw_below_drewN | apply below_drew1 | refine below_set ?_ GE213.out) | exact HB.out))) : w.heap.size ≤ gb222))
                      have GE222 := GW222
                      have NB213_222 := Aside0.mk ((ne_lt hg (pk BK213) : gb213 ≠ gb222))
                      have NB222_213 := Aside0.mk ((ne_gt hg (pk BK213) : gb222 ≠ gb213))
                      replace HO216 := Aside0.mk (Kd.R_below (by (with_reducible repeat (first | apply Kd.R_alloc | apply Kd.R_drewN | apply Kd.R_drew)); exact HO216.out) hb)
                      replace BK213 := Aside0.mk (blk_below (g := gb213) (pk BK213) hb)
                      replace HB := Aside0.mk (below_step (by repeat (first | (with_reducible first | exact HB.out | apply below_alloc | apply pw_below_drewN | apply below_drew1 | refine below_set ?_ GE213.out) | exact HB.out)) hb)
                      clear hb hbox hg
                      refine hK.out _ _ trivial (fun hHeld => ?_)
                      clear hK K
                      refine norm_ (a' := ?_) ?_ ?_
                      rotate_left
                      · show Act.put _ (some 7) _ = _
                        simp only [Act.put, List.setIfInBounds_toArray, List.set_cons_zero, List.set_cons_succ, i64_w, i32_w]
                        rfl
                      exact norm0_ (hJ0_4_14 (.slice (some adz_v215) y214.length co18, adz_v215, gb222) _ ⟨(by (with_reducible repeat (first | apply Kd.R_alloc | apply Kd.R_drewN | apply Kd.R_drew)); exact HO216.out), ⟨_, rfl⟩, (pk BK213), (pk BK222), GW222.out, GE222.out, NB213_222.out, NB222_213.out, (by repeat (first | (with_reducible first | exact HB.out | apply below_alloc | apply pw_below_drewN | apply below_drew1 | refine below_set ?_ GE213.out | refine below_set ?_ GE222.out) | exact HB.out))⟩)
                · skip
                  rintro ⟨v219, adz_v219, gb222⟩ w18 ⟨h0_, h1_, h2_, h3_, h4_, h5_, h6_, h7_, h8_⟩
                  have HO220 : Aside0 (Kd.R Kd.string 9 w18 w.heap.size (fun _ => True) v219 y218) := ⟨h0_⟩
                  have HA_HO220 : Aside0 (∃ c_, (v219 : Value) = .slice (some adz_v219) y218.length c_) := ⟨h1_⟩
                  have BK222 : Aside0 (w18.heap[gb222]? = some (.cells #[.string (⟨#[]⟩ : ByteArray), .string (⟨#[]⟩ : ByteArray), .slice none 0 0, .int .i64 0] 26 (0, 0))) := ⟨h3_⟩
                  have GW222 : Aside0 (w.heap.size ≤ gb222) := ⟨h4_⟩
                  have GE222 : Aside0 (w.heap.size ≤ gb222) := ⟨h5_⟩
                  have NB213_222 : Aside0 (gb213 ≠ gb222) := ⟨h6_⟩
                  have NB222_213 : Aside0 (gb222 ≠ gb213) := ⟨h7_⟩
                  replace BK213 := Aside0.mk h2_
                  replace HB : Aside0 (Below w.heap.size w w18) := ⟨h8_⟩
                  clear h0_ h1_ h2_ h3_ h4_ h5_ h6_ h7_ h8_
                  have hHeld := trivial
                  obtain ⟨co19, eo19⟩ := HA_HO220.out
                  clear HA_HO220
                  subst eo19
                  refine norm_ (a' := ?_) ?_ ?_
                  rotate_left
                  · simp only [putAll, Act.put, List.setIfInBounds_toArray, List.set_cons_zero, List.set_cons_succ]
                    rfl
                  refine one_ (i := 0) (N := some 13) #[true, true, true, false, false, true, true, true, true, true, true, true, true, false, true, false] rfl rfl (one_of HT_.out (by kernel_rfl)) (by decide) (fun K hK => ?_)
                  refine Kd.R_lit_step Kd.string _ 9 ?hg (N := 13) ?hd (xs := ([(⟨#[102, 114, 111, 110, 116]⟩ : ByteArray), (⟨#[98, 97, 99, 107]⟩ : ByteArray), (⟨#[114, 45, 49]⟩ : ByteArray)] : List ByteArray)) (inner := [.string (⟨#[102, 114, 111, 110, 116]⟩ : ByteArray), .string (⟨#[98, 97, 99, 107]⟩ : ByteArray), .string (⟨#[114, 45, 49]⟩ : ByteArray)]) (ok := fun _ => True) (okp := fun _ => True) ?hr ?hp (fun _ hk => hk) trivial (Below.refl _ _) (Nat.le_refl _) (by simp) ?_; (case hd => rfl); (case hg => rfl); (case hr => first | (go_simp; done) | (go_simp; rfl)); (case hp => exact (Reps.one (show Kd.M Kd.string _ _ _ (⟨#[102, 114, 111, 110, 116]⟩ : ByteArray) [.string (⟨#[102, 114, 111, 110, 116]⟩ : ByteArray)] from rfl) (Reps.one (show Kd.M Kd.string _ _ _ (⟨#[98, 97, 99, 107]⟩ : ByteArray) [.string (⟨#[98, 97, 99, 107]⟩ : ByteArray)] from rfl) (Reps.one (show Kd.M Kd.string _ _ _ (⟨#[114, 45, 49]⟩ : ByteArray) [.string (⟨#[114, 45, 49]⟩ : ByteArray)] from rfl) (Reps.none _ _)))))
                  intro v215 w20 ho21 hb hg_ hnew_
                  clear hg_ hnew_
                  (first | rw [← Ny214.out] at ho21 | (simp only [Int.reduceToNat] at ho21; rw [← Ny214.out] at ho21))
                  have HO216 := Aside0.mk (Kd.R_lower (Kd.R_new' ho21 (Kd.R_lt (by (with_reducible repeat (first | apply Kd.R_alloc | apply Kd.R_drewN | apply Kd.R_drew)); exact HO220.out))) (below_size (by repeat (first | (with_reducible first | exact HB.out | apply below_alloc | apply pw_below_drewN | apply below_drew1 | refine below_set ?_ GE213.out | refine below_set ?_ GE222.out) | exact HB.out))))
                  replace HO220 := Aside0.mk (Kd.R_elder' (by (with_reducible repeat (first | apply Kd.R_alloc | apply Kd.R_drewN | apply Kd.R_drew)); exact HO220.out) (Kd.R_base ho21) hb)
                  replace BK213 := Aside0.mk (blk_below (g := gb213) (pk BK213) hb)
                  replace BK222 := Aside0.mk (blk_below (g := gb222) (pk BK222) hb)
                  replace HB := Aside0.mk (below_step (by repeat (first | (with_reducible first | exact HB.out | apply below_alloc | apply pw_below_drewN | apply below_drew1 | refine below_set ?_ GE213.out | refine below_set ?_ GE222.out) | exact HB.out)) hb)
                  clear hb ho21
                  obtain ⟨Ao22, co22, eo22⟩ := Kd.R_slice HO216.out
                  subst eo22
                  obtain ⟨ado22, fo22, _⟩ := Kd.at_string (Kd.R_reads' HO216.out).2.2 0 (by decide) (by rw [Ny214.out]; simp)
                  cases fo22
                  refine hK.out _ _ trivial (fun hHeld => ?_)
                  clear hK K
                  refine norm_ (a' := ?_) ?_ ?_
                  rotate_left
                  · show Act.put _ (some 13) _ = _
                    simp only [Act.put, List.setIfInBounds_toArray, List.set_cons_zero, List.set_cons_succ, i64_w, i32_w]
                    rfl
                  refine pure_ (i := 3) (N := some 16) (v := ?_) (a' := ?_) #[true, true, true, true, false, true, true, true, true, true, true, true, true, false, true, false] rfl rfl (any_of HT_.out (by kernel_rfl)) (fun _ _ _ h => h) (Or.inl ⟨by rfl, ?_⟩) ?_ ?_
                  rotate_left
                  · intro w'
                    go_simp
                    with_reducible rfl
                  rotate_left
                  · simp only [Act.put, List.setIfInBounds_toArray, List.set_cons_zero, List.set_cons_succ, i64_w, i32_w]
                    rfl
                  exact norm0_ (hJ0_5_10_14 (.slice (some ado22) y214.length co22, ado22, .slice (some adz_v219) y218.length co19, adz_v219, gb222) _ ⟨(by (with_reducible repeat (first | apply Kd.R_alloc | apply Kd.R_drewN | apply Kd.R_drew)); exact Kd.R_mono HO216.out (fun _ hk => hk.2)), (by (with_reducible repeat (first | apply Kd.R_alloc | apply Kd.R_drewN | apply Kd.R_drew)); exact Kd.R_mono HO220.out (fun _ hk => hk.2)), ⟨_, rfl⟩, ⟨_, rfl⟩, (pk BK213), (pk BK222), GW222.out, GE222.out, NB213_222.out, NB222_213.out, (by repeat (first | (with_reducible first | exact HB.out | apply below_alloc | apply pw_below_drewN | apply below_drew1 | refine below_set ?_ GE213.out | refine below_set ?_ GE222.out) | exact HB.out))⟩)
              · skip
                rintro ⟨v215, adz_v215, v219, adz_v219, gb222⟩ w21 ⟨h0_, h1_, h2_, h3_, h4_, h5_, h6_, h7_, h8_, h9_, h10_⟩
                have HO216 : Aside0 (Kd.R Kd.string 9 w21 w.heap.size (fun k_ => some k_ ≠ (v219 : Value).ownBlock) v215 y214) := ⟨h0_⟩
                have HO220 : Aside0 (Kd.R Kd.string 9 w21 w.heap.size (fun k_ => some k_ ≠ (v215 : Value).ownBlock) v219 y218) := ⟨h1_⟩
                have HA_HO216 : Aside0 (∃ c_, (v215 : Value) = .slice (some adz_v215) y214.length c_) := ⟨h2_⟩
                have HA_HO220 : Aside0 (∃ c_, (v219 : Value) = .slice (some adz_v219) y218.length c_) := ⟨h3_⟩
                have BK222 : Aside0 (w21.heap[gb222]? = some (.cells #[.string (⟨#[]⟩ : ByteArray), .string (⟨#[]⟩ : ByteArray), .slice none 0 0, .int .i64 0] 26 (0, 0))) := ⟨h5_⟩
                have GW222 : Aside0 (w.heap.size ≤ gb222) := ⟨h6_⟩
                have GE222 : Aside0 (w.heap.size ≤ gb222) := ⟨h7_⟩
                have NB213_222 : Aside0 (gb213 ≠ gb222) := ⟨h8_⟩
                have NB222_213 : Aside0 (gb222 ≠ gb213) := ⟨h9_⟩
                replace BK213 := Aside0.mk h4_
                replace HB : Aside0 (Below w.heap.size w w21) := ⟨h10_⟩
                clear h0_ h1_ h2_ h3_ h4_ h5_ h6_ h7_ h8_ h9_ h10_
                have hHeld := trivial
                obtain ⟨co22, eo22⟩ := HA_HO216.out
                clear HA_HO216
                subst eo22
                obtain ⟨co23, eo23⟩ := HA_HO220.out
                clear HA_HO220
                subst eo23
                refine norm_ (a' := ?_) ?_ ?_
                rotate_left
                · simp only [putAll, Act.put, List.setIfInBounds_toArray, List.set_cons_zero, List.set_cons_succ]
                  rfl
                refine two_ (i := 4) (j := 10) (Ni := some 17) (Nj := some 23) #[true, true, true, true, true, true, true, true, true, true, false, true, true, false, true, false] #[true, true, true, true, false, true, true, true, true, true, true, true, true, false, true, false] rfl rfl rfl rfl (two_of HT_.out (by kernel_rfl)) (by decide) (by decide) (fun K hK => ?_) (fun K hK => ?_)
                · skip
                  (have p217 : 0 ≤ ((ji4) : Int) := of_decide_eq_true (by first | (with_reducible assumption) | assumption); have q217 : (ji4) < (y214.length : Int) := of_decide_eq_true (by first | (with_reducible assumption) | assumption); obtain ⟨ad217, e217, hx217_0⟩ := Kd.at_string (Kd.R_reads' HO216.out).2.2 (ji4) p217 q217; obtain rfl : adz_v215 = ad217 := (by injection e217))
                  with_reducible_and_instances refine value_ (w1 := ?_) (v := ?_) ?hw_ ?hN_ ?_ ?_
                  (case hw_ => rfl)
                  (case hN_ => rfl)
                  rotate_left 2
                  · go_simp
                    constructor
                    · rfl
                    · rfl
                  clear hx217_0
                  refine hK.out _ _ trivial (fun hHeld => ?_)
                  clear hK K
                  refine norm_ (a' := ?_) ?_ ?_
                  rotate_left
                  · show Act.put _ (some 17) _ = _
                    simp only [Act.put, List.setIfInBounds_toArray, List.set_cons_zero, List.set_cons_succ, i64_w, i32_w]
                    rfl
                  exact norm0_ (hJ0_4_5_14 (.slice (some adz_v215) y214.length co22, adz_v215, .slice (some adz_v219) y218.length co23, adz_v219, gb222) _ ⟨(by (with_reducible repeat (first | apply Kd.R_alloc | apply Kd.R_drewN | apply Kd.R_drew)); exact HO216.out), (by (with_reducible repeat (first | apply Kd.R_alloc | apply Kd.R_drewN | apply Kd.R_drew)); exact HO220.out), ⟨_, rfl⟩, ⟨_, rfl⟩, (pk BK213), (pk BK222), GW222.out, GE222.out, NB213_222.out, NB222_213.out, (by repeat (first | (with_reducible first | exact HB.out | apply below_alloc | apply pw_below_drewN | apply below_drew1 | refine below_set ?_ GE213.out | refine below_set ?_ GE222.out) | exact HB.out))⟩)
                · skip
                  (have p221 : 0 ≤ ((ji7) : Int) := of_decide_eq_true (by first | (with_reducible assumption) | assumption); have q221 : (ji7) < (y218.length : Int) := of_decide_eq_true (by first | (with_reducible assumption) | assumption); obtain ⟨ad221, e221, hx221_0⟩ := Kd.at_string (Kd.R_reads' HO220.out).2.2 (ji7) p221 q221; obtain rfl : adz_v219 = ad221 := (by injection e221))
                  with_reducible_and_instances refine value_ (w1 := ?_) (v := ?_) ?hw_ ?hN_ ?_ ?_
                  (case hw_ => rfl)
                  (case hN_ => rfl)
                  rotate_left 2
                  · go_simp
                    constructor
                    · rfl
                    · rfl
                  clear hx221_0
                  refine hK.out _ _ trivial (fun hHeld => ?_)
                  clear hK K
                  refine norm_ (a' := ?_) ?_ ?_
                  rotate_left
                  · show Act.put _ (some 23) _ = _
                    simp only [Act.put, List.setIfInBounds_toArray, List.set_cons_zero, List.set_cons_succ, i64_w, i32_w]
                    rfl
                  exact norm0_ (hJ0_5_10_14 (.slice (some adz_v215) y214.length co22, adz_v215, .slice (some adz_v219) y218.length co23, adz_v219, gb222) _ ⟨(by (with_reducible repeat (first | apply Kd.R_alloc | apply Kd.R_drewN | apply Kd.R_drew)); exact HO216.out), (by (with_reducible repeat (first | apply Kd.R_alloc | apply Kd.R_drewN | apply Kd.R_drew)); exact HO220.out), ⟨_, rfl⟩, ⟨_, rfl⟩, (pk BK213), (pk BK222), GW222.out, GE222.out, NB213_222.out, NB222_213.out, (by repeat (first | (with_reducible first | exact HB.out | apply below_alloc | apply pw_below_drewN | apply below_drew1 | refine below_set ?_ GE213.out | refine below_set ?_ GE222.out) | exact HB.out))⟩)
            · skip
              rintro ⟨v215, adz_v215, v219, adz_v219⟩ w20 ⟨h0_, h1_, h2_, h3_, h4_, h5_⟩
              have HO216 : Aside0 (Kd.R Kd.string 9 w20 w.heap.size (fun k_ => some k_ ≠ (v219 : Value).ownBlock) v215 y214) := ⟨h0_⟩
              have HO220 : Aside0 (Kd.R Kd.string 9 w20 w.heap.size (fun k_ => some k_ ≠ (v215 : Value).ownBlock) v219 y218) := ⟨h1_⟩
              have HA_HO216 : Aside0 (∃ c_, (v215 : Value) = .slice (some adz_v215) y214.length c_) := ⟨h2_⟩
              have HA_HO220 : Aside0 (∃ c_, (v219 : Value) = .slice (some adz_v219) y218.length c_) := ⟨h3_⟩
              replace BK213 := Aside0.mk h4_
              replace HB : Aside0 (Below w.heap.size w w20) := ⟨h5_⟩
              clear h0_ h1_ h2_ h3_ h4_ h5_
              have hHeld := trivial
              obtain ⟨co21, eo21⟩ := HA_HO216.out
              clear HA_HO216
              subst eo21
              obtain ⟨co22, eo22⟩ := HA_HO220.out
              clear HA_HO220
              subst eo22
              refine norm_ (a' := ?_) ?_ ?_
              rotate_left
              · simp only [putAll, Act.put, List.setIfInBounds_toArray, List.set_cons_zero, List.set_cons_succ]
                rfl
              refine two_ (i := 4) (j := 14) (Ni := some 17) (Nj := some 7) #[true, true, true, true, true, true, true, true, true, true, true, true, true, false, false, false] #[true, true, true, true, false, true, true, true, true, true, true, true, true, false, true, false] rfl rfl rfl rfl (two_of HT_.out (by kernel_rfl)) (by decide) (by decide) (fun K hK => ?_) (fun K hK => ?_)
              · skip
                (have p217 : 0 ≤ ((ji4) : Int) := of_decide_eq_true (by first | (with_reducible assumption) | assumption); have q217 : (ji4) < (y214.length : Int) := of_decide_eq_true (by first | (with_reducible assumption) | assumption); obtain ⟨ad217, e217, hx217_0⟩ := Kd.at_string (Kd.R_reads' HO216.out).2.2 (ji4) p217 q217; obtain rfl : adz_v215 = ad217 := (by injection e217))
                with_reducible_and_instances refine value_ (w1 := ?_) (v := ?_) ?hw_ ?hN_ ?_ ?_
                (case hw_ => rfl)
                (case hN_ => rfl)
                rotate_left 2
                · go_simp
                  constructor
                  · rfl
                  · rfl
                clear hx217_0
                refine hK.out _ _ trivial (fun hHeld => ?_)
                clear hK K
                refine norm_ (a' := ?_) ?_ ?_
                rotate_left
                · show Act.put _ (some 17) _ = _
                  simp only [Act.put, List.setIfInBounds_toArray, List.set_cons_zero, List.set_cons_succ, i64_w, i32_w]
                  rfl
                refine pure_ (i := 13) (N := some 26) (v := ?_) (a' := ?_) #[true, true, true, true, true, true, true, true, true, true, true, true, true, true, false, false] rfl rfl (any_of HT_.out (by kernel_rfl)) (fun _ _ _ h => h) (Or.inl ⟨by rfl, ?_⟩) ?_ ?_
                rotate_left
                · intro w'
                  go_simp
                  with_reducible rfl
                rotate_left
                · simp only [Act.put, List.setIfInBounds_toArray, List.set_cons_zero, List.set_cons_succ, i64_w, i32_w]
                  rfl
                exact norm0_ (hJ0_4_5_10 (.slice (some adz_v215) y214.length co21, adz_v215, .slice (some adz_v219) y218.length co22, adz_v219) _ ⟨(by (with_reducible repeat (first | apply Kd.R_alloc | apply Kd.R_drewN | apply Kd.R_drew)); exact HO216.out), (by (with_reducible repeat (first | apply Kd.R_alloc | apply Kd.R_drewN | apply Kd.R_drew)); exact HO220.out), ⟨_, rfl⟩, ⟨_, rfl⟩, (pk BK213), (by repeat (first | (with_reducible first | exact HB.out | apply below_alloc | apply pw_below_drewN | apply below_drew1 | refine below_set ?_ GE213.out) | exact HB.out))⟩)
              · skip
                refine box_step ?hg (N := 7) ?hd (cs := #[.string (⟨#[]⟩ : ByteArray), .string (⟨#[]⟩ : ByteArray), .slice none 0 0, .int .i64 0]) (t := 26) ?hr ?_; (case hd => rfl); (case hg => rfl); (case hr => first | (go_simp; done) | (go_simp; rfl))
                intro gb222 hg w23 hbox hb
                have BK222 := Aside0.mk (hbox)
                have GW222 := Aside0.mk ((by rw [hg]; exact (below_size (by repeat (first | (with_reducible first | exact HB.out | apply below_alloc | apply pw_below_drewN | apply below_drew1 | refine below_set ?_ GE213.out) | exact HB.out))) : w.heap.size ≤ gb222))
                have GE222 := GW222
                have NB213_222 := Aside0.mk ((ne_lt hg (pk BK213) : gb213 ≠ gb222))
                have NB222_213 := Aside0.mk ((ne_gt hg (pk BK213) : gb222 ≠ gb213))
                replace HO216 := Aside0.mk (Kd.R_below (by (with_reducible repeat (first | apply Kd.R_alloc | apply Kd.R_drewN | apply Kd.R_drew)); exact HO216.out) hb)
                replace HO220 := Aside0.mk (Kd.R_below (by (with_reducible repeat (first | apply Kd.R_alloc | apply Kd.R_drewN | apply Kd.R_drew)); exact HO220.out) hb)
                replace BK213 := Aside0.mk (blk_below (g := gb213) (pk BK213) hb)
                replace HB := Aside0.mk (below_step (by repeat (first | (with_reducible first | exact HB.out | apply below_alloc | apply pw_below_drewN | apply below_drew1 | refine below_set ?_ GE213.out) | exact HB.out)) hb)
                clear hb hbox hg
                refine hK.out _ _ trivial (fun hHeld => ?_)
                clear hK K
                refine norm_ (a' := ?_) ?_ ?_
                rotate_left
                · show Act.put _ (some 7) _ = _
                  simp only [Act.put, List.setIfInBounds_toArray, List.set_cons_zero, List.set_cons_succ, i64_w, i32_w]
                  rfl
                exact norm0_ (hJ0_5_10_14 (.slice (some adz_v215) y214.length co21, adz_v215, .slice (some adz_v219) y218.length co22, adz_v219, gb222) _ ⟨(by (with_reducible repeat (first | apply Kd.R_alloc | apply Kd.R_drewN | apply Kd.R_drew)); exact HO216.out), (by (with_reducible repeat (first | apply Kd.R_alloc | apply Kd.R_drewN | apply Kd.R_drew)); exact HO220.out), ⟨_, rfl⟩, ⟨_, rfl⟩, (pk BK213), (pk BK222), GW222.out, GE222.out, NB213_222.out, NB222_213.out, (by repeat (first | (with_reducible first | exact HB.out | apply below_alloc | apply pw_below_drewN | apply below_drew1 | refine below_set ?_ GE213.out | refine below_set ?_ GE222.out) | exact HB.out))⟩)
          · skip
            rintro ⟨v215, adz_v215, gb222⟩ w18 ⟨h0_, h1_, h2_, h3_, h4_, h5_, h6_, h7_, h8_⟩
            have HO216 : Aside0 (Kd.R Kd.string 9 w18 w.heap.size (fun _ => True) v215 y214) := ⟨h0_⟩
            have HA_HO216 : Aside0 (∃ c_, (v215 : Value) = .slice (some adz_v215) y214.length c_) := ⟨h1_⟩
            have BK222 : Aside0 (w18.heap[gb222]? = some (.cells #[.string (⟨#[]⟩ : ByteArray), .string (⟨#[]⟩ : ByteArray), .slice none 0 0, .int .i64 0] 26 (0, 0))) := ⟨h3_⟩
            have GW222 : Aside0 (w.heap.size ≤ gb222) := ⟨h4_⟩
            have GE222 : Aside0 (w.heap.size ≤ gb222) := ⟨h5_⟩
            have NB213_222 : Aside0 (gb213 ≠ gb222) := ⟨h6_⟩
            have NB222_213 : Aside0 (gb222 ≠ gb213) := ⟨h7_⟩
            replace BK213 := Aside0.mk h2_
            replace HB : Aside0 (Below w.heap.size w w18) := ⟨h8_⟩
            clear h0_ h1_ h2_ h3_ h4_ h5_ h6_ h7_ h8_
            have hHeld := trivial
            obtain ⟨co19, eo19⟩ := HA_HO216.out
            clear HA_HO216
            subst eo19
            refine norm_ (a' := ?_) ?_ ?_
            rotate_left
            · simp only [putAll, Act.put, List.setIfInBounds_toArray, List.set_cons_zero, List.set_cons_succ]
              rfl
            refine one_ (i := 5) (N := some 18) #[true, true, true, true, true, true, true, true, true, false, false, true, true, false, true, false] rfl rfl (one_of HT_.out (by kernel_rfl)) (by decide) (fun K hK => ?_)
            refine Kd.R_lit_step Kd.string _ 9 ?hg (N := 18) ?hd (xs := ([(⟨#[119, 101, 98]⟩ : ByteArray), (⟨#[97, 112, 105]⟩ : ByteArray), (⟨#[97, 45, 98]⟩ : ByteArray)] : List ByteArray)) (inner := [.string (⟨#[119, 101, 98]⟩ : ByteArray), .string (⟨#[97, 112, 105]⟩ : ByteArray), .string (⟨#[97, 45, 98]⟩ : ByteArray)]) (ok := fun _ => True) (okp := fun _ => True) ?hr ?hp (fun _ hk => hk) trivial (Below.refl _ _) (Nat.le_refl _) (by simp) ?_; (case hd => rfl); (case hg => rfl); (case hr => first | (go_simp; done) | (go_simp; rfl)); (case hp => exact (Reps.one (show Kd.M Kd.string _ _ _ (⟨#[119, 101, 98]⟩ : ByteArray) [.string (⟨#[119, 101, 98]⟩ : ByteArray)] from rfl) (Reps.one (show Kd.M Kd.string _ _ _ (⟨#[97, 112, 105]⟩ : ByteArray) [.string (⟨#[97, 112, 105]⟩ : ByteArray)] from rfl) (Reps.one (show Kd.M Kd.string _ _ _ (⟨#[97, 45, 98]⟩ : ByteArray) [.string (⟨#[97, 45, 98]⟩ : ByteArray)] from rfl) (Reps.none _ _)))))
            intro v219 w20 ho21 hb hg_ hnew_
            clear hg_ hnew_
            (first | rw [← Ny218.out] at ho21 | (simp only [Int.reduceToNat] at ho21; rw [← Ny218.out] at ho21))
            have HO220 := Aside0.mk (Kd.R_lower (Kd.R_new' ho21 (Kd.R_lt (by (with_reducible repeat (first | apply Kd.R_alloc | apply Kd.R_drewN | apply Kd.R_drew)); exact HO216.out))) (below_size (by repeat (first | (with_reducible first | exact HB.out | apply below_alloc | apply pw_below_drewN | apply below_drew1 | refine below_set ?_ GE213.out | refine below_set ?_ GE222.out) | exact HB.out))))
            replace HO216 := Aside0.mk (Kd.R_elder' (by (with_reducible repeat (first | apply Kd.R_alloc | apply Kd.R_drewN | apply Kd.R_drew)); exact HO216.out) (Kd.R_base ho21) hb)
            replace BK213 := Aside0.mk (blk_below (g := gb213) (pk BK213) hb)
            replace BK222 := Aside0.mk (blk_below (g := gb222) (pk BK222) hb)
            replace HB := Aside0.mk (below_step (by repeat (first | (with_reducible first | exact HB.out | apply below_alloc | apply pw_below_drewN | apply below_drew1 | refine below_set ?_ GE213.out | refine below_set ?_ GE222.out) | exact HB.out)) hb)
            clear hb ho21
            obtain ⟨Ao22, co22, eo22⟩ := Kd.R_slice HO220.out
            subst eo22
            obtain ⟨ado22, fo22, _⟩ := Kd.at_string (Kd.R_reads' HO220.out).2.2 0 (by decide) (by rw [Ny218.out]; simp)
            cases fo22
            refine hK.out _ _ trivial (fun hHeld => ?_)
            clear hK K
            refine norm_ (a' := ?_) ?_ ?_
            rotate_left
            · show Act.put _ (some 18) _ = _
              simp only [Act.put, List.setIfInBounds_toArray, List.set_cons_zero, List.set_cons_succ, i64_w, i32_w]
              rfl
            refine pure_ (i := 9) (N := some 22) (v := ?_) (a' := ?_) #[true, true, true, true, true, true, true, true, true, true, false, true, true, false, true, false] rfl rfl (any_of HT_.out (by kernel_rfl)) (fun _ _ _ h => h) (Or.inl ⟨by rfl, ?_⟩) ?_ ?_
            rotate_left
            · intro w'
              go_simp
              with_reducible rfl
            rotate_left
            · simp only [Act.put, List.setIfInBounds_toArray, List.set_cons_zero, List.set_cons_succ, i64_w, i32_w]
              rfl
            exact norm0_ (hJ0_4_5_14 (.slice (some adz_v215) y214.length co19, adz_v215, .slice (some ado22) y218.length co22, ado22, gb222) _ ⟨(by (with_reducible repeat (first | apply Kd.R_alloc | apply Kd.R_drewN | apply Kd.R_drew)); exact Kd.R_mono HO216.out (fun _ hk => hk.2)), (by (with_reducible repeat (first | apply Kd.R_alloc | apply Kd.R_drewN | apply Kd.R_drew)); exact Kd.R_mono HO220.out (fun _ hk => hk.2)), ⟨_, rfl⟩, ⟨_, rfl⟩, (pk BK213), (pk BK222), GW222.out, GE222.out, NB213_222.out, NB222_213.out, (by repeat (first | (with_reducible first | exact HB.out | apply below_alloc | apply pw_below_drewN | apply below_drew1 | refine below_set ?_ GE213.out | refine below_set ?_ GE222.out) | exact HB.out))⟩)
        · skip
          rintro ⟨v215, adz_v215, v219, adz_v219⟩ w20 ⟨h0_, h1_, h2_, h3_, h4_, h5_⟩
          have HO216 : Aside0 (Kd.R Kd.string 9 w20 w.heap.size (fun k_ => some k_ ≠ (v219 : Value).ownBlock) v215 y214) := ⟨h0_⟩
          have HO220 : Aside0 (Kd.R Kd.string 9 w20 w.heap.size (fun k_ => some k_ ≠ (v215 : Value).ownBlock) v219 y218) := ⟨h1_⟩
          have HA_HO216 : Aside0 (∃ c_, (v215 : Value) = .slice (some adz_v215) y214.length c_) := ⟨h2_⟩
          have HA_HO220 : Aside0 (∃ c_, (v219 : Value) = .slice (some adz_v219) y218.length c_) := ⟨h3_⟩
          replace BK213 := Aside0.mk h4_
          replace HB : Aside0 (Below w.heap.size w w20) := ⟨h5_⟩
          clear h0_ h1_ h2_ h3_ h4_ h5_
          have hHeld := trivial
          obtain ⟨co21, eo21⟩ := HA_HO216.out
          clear HA_HO216
          subst eo21
          obtain ⟨co22, eo22⟩ := HA_HO220.out
          clear HA_HO220
          subst eo22
          refine norm_ (a' := ?_) ?_ ?_
          rotate_left
          · simp only [putAll, Act.put, List.setIfInBounds_toArray, List.set_cons_zero, List.set_cons_succ]
            rfl
          refine two_ (i := 10) (j := 14) (Ni := some 23) (Nj := some 7) #[true, true, true, true, true, true, true, true, true, true, true, true, true, false, false, false] #[true, true, true, true, true, true, true, true, true, true, false, true, true, false, true, false] rfl rfl rfl rfl (two_of HT_.out (by kernel_rfl)) (by decide) (by decide) (fun K hK => ?_) (fun K hK => ?_)
          · skip
            (have p221 : 0 ≤ ((ji7) : Int) := of_decide_eq_true (by first | (with_reducible assumption) | assumption); have q221 : (ji7) < (y218.length : Int) := of_decide_eq_true (by first | (with_reducible assumption) | assumption); obtain ⟨ad221, e221, hx221_0⟩ := Kd.at_string (Kd.R_reads' HO220.out).2.2 (ji7) p221 q221; obtain rfl : adz_v219 = ad221 := (by injection e221))
            with_reducible_and_instances refine value_ (w1 := ?_) (v := ?_) ?hw_ ?hN_ ?_ ?_
            (case hw_ => rfl)
            (case hN_ => rfl)
            rotate_left 2
            · go_simp
              constructor
              · rfl
              · rfl
            clear hx221_0
            refine hK.out _ _ trivial (fun hHeld => ?_)
            clear hK K
            refine norm_ (a' := ?_) ?_ ?_
            rotate_left
            · show Act.put _ (some 23) _ = _
              simp only [Act.put, List.setIfInBounds_toArray, List.set_cons_zero, List.set_cons_succ, i64_w, i32_w]
              rfl
            refine pure_ (i := 13) (N := some 26) (v := ?_) (a' := ?_) #[true, true, true, true, true, true, true, true, true, true, true, true, true, true, false, false] rfl rfl (any_of HT_.out (by kernel_rfl)) (fun _ _ _ h => h) (Or.inl ⟨by rfl, ?_⟩) ?_ ?_
            rotate_left
            · intro w'
              go_simp
              with_reducible rfl
            rotate_left
            · simp only [Act.put, List.setIfInBounds_toArray, List.set_cons_zero, List.set_cons_succ, i64_w, i32_w]
              rfl
            exact norm0_ (hJ0_4_5_10 (.slice (some adz_v215) y214.length co21, adz_v215, .slice (some adz_v219) y218.length co22, adz_v219) _ ⟨(by (with_reducible repeat (first | apply Kd.R_alloc | apply Kd.R_drewN | apply Kd.R_drew)); exact HO216.out), (by (with_reducible repeat (first | apply Kd.R_alloc | apply Kd.R_drewN | apply Kd.R_drew)); exact HO220.out), ⟨_, rfl⟩, ⟨_, rfl⟩, (pk BK213), (by repeat (first | (with_reducible first | exact HB.out | apply below_alloc | apply pw_below_drewN | apply below_drew1 | refine below_set ?_ GE213.out) | exact HB.out))⟩)
          · skip
            refine box_step ?hg (N := 7) ?hd (cs := #[.string (⟨#[]⟩ : ByteArray), .string (⟨#[]⟩ : ByteArray), .slice none 0 0, .int .i64 0]) (t := 26) ?hr ?_; (case hd => rfl); (case hg => rfl); (case hr => first | (go_simp; done) | (go_simp; rfl))
            intro gb222 hg w23 hbox hb
            have BK222 := Aside0.mk (hbox)
            have GW222 := Aside0.mk ((by rw [hg]; exact (below_size (by repeat (first | (with_reducible first | exact HB.out | apply below_alloc | apply pw_below_drewN | apply below_drew1 | refine below_set ?_ GE213.out) | exact HB.out))) : w.heap.size ≤ gb222))
            have GE222 := GW222
            have NB213_222 := Aside0.mk ((ne_lt hg (pk BK213) : gb213 ≠ gb222))
            have NB222_213 := Aside0.mk ((ne_gt hg (pk BK213) : gb222 ≠ gb213))
            replace HO216 := Aside0.mk (Kd.R_below (by (with_reducible repeat (first | apply Kd.R_alloc | apply Kd.R_drewN | apply Kd.R_drew)); exact HO216.out) hb)
            replace HO220 := Aside0.mk (Kd.R_below (by (with_reducible repeat (first | apply Kd.R_alloc | apply Kd.R_drewN | apply Kd.R_drew)); exact HO220.out) hb)
            replace BK213 := Aside0.mk (blk_below (g := gb213) (pk BK213) hb)
            replace HB := Aside0.mk (below_step (by repeat (first | (with_reducible first | exact HB.out | apply below_alloc | apply pw_below_drewN | apply below_drew1 | refine below_set ?_ GE213.out) | exact HB.out)) hb)
            clear hb hbox hg
            refine hK.out _ _ trivial (fun hHeld => ?_)
            clear hK K
            refine norm_ (a' := ?_) ?_ ?_
            rotate_left
            · show Act.put _ (some 7) _ = _
              simp only [Act.put, List.setIfInBounds_toArray, List.set_cons_zero, List.set_cons_succ, i64_w, i32_w]
              rfl
            exact norm0_ (hJ0_4_5_14 (.slice (some adz_v215) y214.length co21, adz_v215, .slice (some adz_v219) y218.length co22, adz_v219, gb222) _ ⟨(by (with_reducible repeat (first | apply Kd.R_alloc | apply Kd.R_drewN | apply Kd.R_drew)); exact HO216.out), (by (with_reducible repeat (first | apply Kd.R_alloc | apply Kd.R_drewN | apply Kd.R_drew)); exact HO220.out), ⟨_, rfl⟩, ⟨_, rfl⟩, (pk BK213), (pk BK222), GW222.out, GE222.out, NB213_222.out, NB222_213.out, (by repeat (first | (with_reducible first | exact HB.out | apply below_alloc | apply pw_below_drewN | apply below_drew1 | refine below_set ?_ GE213.out | refine below_set ?_ GE222.out) | exact HB.out))⟩)
      · skip
        rintro ⟨v215, adz_v215, v219, adz_v219, gb222⟩ w21 ⟨h0_, h1_, h2_, h3_, h4_, h5_, h6_, h7_, h8_, h9_, h10_⟩
        have HO216 : Aside0 (Kd.R Kd.string 9 w21 w.heap.size (fun k_ => some k_ ≠ (v219 : Value).ownBlock) v215 y214) := ⟨h0_⟩
        have HO220 : Aside0 (Kd.R Kd.string 9 w21 w.heap.size (fun k_ => some k_ ≠ (v215 : Value).ownBlock) v219 y218) := ⟨h1_⟩
        have HA_HO216 : Aside0 (∃ c_, (v215 : Value) = .slice (some adz_v215) y214.length c_) := ⟨h2_⟩
        have HA_HO220 : Aside0 (∃ c_, (v219 : Value) = .slice (some adz_v219) y218.length c_) := ⟨h3_⟩
        have BK222 : Aside0 (w21.heap[gb222]? = some (.cells #[.string (⟨#[]⟩ : ByteArray), .string (⟨#[]⟩ : ByteArray), .slice none 0 0, .int .i64 0] 26 (0, 0))) := ⟨h5_⟩
        have GW222 : Aside0 (w.heap.size ≤ gb222) := ⟨h6_⟩
        have GE222 : Aside0 (w.heap.size ≤ gb222) := ⟨h7_⟩
        have NB213_222 : Aside0 (gb213 ≠ gb222) := ⟨h8_⟩
        have NB222_213 : Aside0 (gb222 ≠ gb213) := ⟨h9_⟩
        replace BK213 := Aside0.mk h4_
        replace HB : Aside0 (Below w.heap.size w w21) := ⟨h10_⟩
        clear h0_ h1_ h2_ h3_ h4_ h5_ h6_ h7_ h8_ h9_ h10_
        have hHeld := trivial
        obtain ⟨co22, eo22⟩ := HA_HO216.out
        clear HA_HO216
        subst eo22
        obtain ⟨co23, eo23⟩ := HA_HO220.out
        clear HA_HO220
        subst eo23
        refine norm_ (a' := ?_) ?_ ?_
        rotate_left
        · simp only [putAll, Act.put, List.setIfInBounds_toArray, List.set_cons_zero, List.set_cons_succ]
          rfl
        refine one_ (i := 4) (N := some 17) #[true, true, true, true, true, true, true, true, true, true, true, true, true, false, true, false] rfl rfl (one_of HT_.out (by kernel_rfl)) (by decide) (fun K hK => ?_)
        (have p217 : 0 ≤ ((ji4) : Int) := of_decide_eq_true (by first | (with_reducible assumption) | assumption); have q217 : (ji4) < (y214.length : Int) := of_decide_eq_true (by first | (with_reducible assumption) | assumption); obtain ⟨ad217, e217, hx217_0⟩ := Kd.at_string (Kd.R_reads' HO216.out).2.2 (ji4) p217 q217; obtain rfl : adz_v215 = ad217 := (by injection e217))
        with_reducible_and_instances refine value_ (w1 := ?_) (v := ?_) ?hw_ ?hN_ ?_ ?_
        (case hw_ => rfl)
        (case hN_ => rfl)
        rotate_left 2
        · go_simp
          constructor
          · rfl
          · rfl
        clear hx217_0
        refine hK.out _ _ trivial (fun hHeld => ?_)
        clear hK K
        refine norm_ (a' := ?_) ?_ ?_
        rotate_left
        · show Act.put _ (some 17) _ = _
          simp only [Act.put, List.setIfInBounds_toArray, List.set_cons_zero, List.set_cons_succ, i64_w, i32_w]
          rfl
        refine pure_ (i := 13) (N := some 26) (v := ?_) (a' := ?_) #[true, true, true, true, true, true, true, true, true, true, true, true, true, true, true, false] rfl rfl (any_of HT_.out (by kernel_rfl)) (fun _ _ _ h => h) (Or.inl ⟨by rfl, ?_⟩) ?_ ?_
        rotate_left
        · intro w'
          go_simp
          with_reducible rfl
        rotate_left
        · simp only [Act.put, List.setIfInBounds_toArray, List.set_cons_zero, List.set_cons_succ, i64_w, i32_w]
          rfl
        exact norm0_ (hJ0_4_5_10_14 (.slice (some adz_v215) y214.length co22, adz_v215, .slice (some adz_v219) y218.length co23, adz_v219, gb222) _ ⟨(by (with_reducible repeat (first | apply Kd.R_alloc | apply Kd.R_drewN | apply Kd.R_drew)); exact HO216.out), (by (with_reducible repeat (first | apply Kd.R_alloc | apply Kd.R_drewN | apply Kd.R_drew)); exact HO220.out), ⟨_, rfl⟩, ⟨_, rfl⟩, (pk BK213), (pk BK222), GW222.out, GE222.out, NB213_222.out, NB222_213.out, (by repeat (first | (with_reducible first | exact HB.out | apply below_alloc | apply pw_below_drewN | apply below_drew1 | refine below_set ?_ GE213.out | refine below_set ?_ GE222.out) | exact HB.out))⟩)
    · skip
      rintro ⟨v215, adz_v215, v219, adz_v219, gb222⟩ w21 ⟨h0_, h1_, h2_, h3_, h4_, h5_, h6_, h7_, h8_, h9_, h10_⟩
      have HO216 : Aside0 (Kd.R Kd.string 9 w21 w.heap.size (fun k_ => some k_ ≠ (v219 : Value).ownBlock) v215 y214) := ⟨h0_⟩
      have HO220 : Aside0 (Kd.R Kd.string 9 w21 w.heap.size (fun k_ => some k_ ≠ (v215 : Value).ownBlock) v219 y218) := ⟨h1_⟩
      have HA_HO216 : Aside0 (∃ c_, (v215 : Value) = .slice (some adz_v215) y214.length c_) := ⟨h2_⟩
      have HA_HO220 : Aside0 (∃ c_, (v219 : Value) = .slice (some adz_v219) y218.length c_) := ⟨h3_⟩
      have BK222 : Aside0 (w21.heap[gb222]? = some (.cells #[.string (⟨#[]⟩ : ByteArray), .string (⟨#[]⟩ : ByteArray), .slice none 0 0, .int .i64 0] 26 (0, 0))) := ⟨h5_⟩
      have GW222 : Aside0 (w.heap.size ≤ gb222) := ⟨h6_⟩
      have GE222 : Aside0 (w.heap.size ≤ gb222) := ⟨h7_⟩
      have NB213_222 : Aside0 (gb213 ≠ gb222) := ⟨h8_⟩
      have NB222_213 : Aside0 (gb222 ≠ gb213) := ⟨h9_⟩
      replace BK213 := Aside0.mk h4_
      replace HB : Aside0 (Below w.heap.size w w21) := ⟨h10_⟩
      clear h0_ h1_ h2_ h3_ h4_ h5_ h6_ h7_ h8_ h9_ h10_
      have hHeld := trivial
      obtain ⟨co22, eo22⟩ := HA_HO216.out
      clear HA_HO216
      subst eo22
      obtain ⟨co23, eo23⟩ := HA_HO220.out
      clear HA_HO220
      subst eo23
      refine norm_ (a' := ?_) ?_ ?_
      rotate_left
      · simp only [putAll, Act.put, List.setIfInBounds_toArray, List.set_cons_zero, List.set_cons_succ]
        rfl
      refine one_ (i := 10) (N := some 23) #[true, true, true, true, true, true, true, true, true, true, true, true, true, false, true, false] rfl rfl (one_of HT_.out (by kernel_rfl)) (by decide) (fun K hK => ?_)
      (have p221 : 0 ≤ ((ji7) : Int) := of_decide_eq_true (by first | (with_reducible assumption) | assumption); have q221 : (ji7) < (y218.length : Int) := of_decide_eq_true (by first | (with_reducible assumption) | assumption); obtain ⟨ad221, e221, hx221_0⟩ := Kd.at_string (Kd.R_reads' HO220.out).2.2 (ji7) p221 q221; obtain rfl : adz_v219 = ad221 := (by injection e221))
      with_reducible_and_instances refine value_ (w1 := ?_) (v := ?_) ?hw_ ?hN_ ?_ ?_
      (case hw_ => rfl)
      (case hN_ => rfl)
      rotate_left 2
      · go_simp
        constructor
        · rfl
        · rfl
      clear hx221_0
      refine hK.out _ _ trivial (fun hHeld => ?_)
      clear hK K
      refine norm_ (a' := ?_) ?_ ?_
      rotate_left
      · show Act.put _ (some 23) _ = _
        simp only [Act.put, List.setIfInBounds_toArray, List.set_cons_zero, List.set_cons_succ, i64_w, i32_w]
        rfl
      refine pure_ (i := 13) (N := some 26) (v := ?_) (a' := ?_) #[true, true, true, true, true, true, true, true, true, true, true, true, true, true, true, false] rfl rfl (any_of HT_.out (by kernel_rfl)) (fun _ _ _ h => h) (Or.inl ⟨by rfl, ?_⟩) ?_ ?_
      rotate_left
      · intro w'
        go_simp
        with_reducible rfl
      rotate_left
      · simp only [Act.put, List.setIfInBounds_toArray, List.set_cons_zero, List.set_cons_succ, i64_w, i32_w]
        rfl
      exact norm0_ (hJ0_4_5_10_14 (.slice (some adz_v215) y214.length co22, adz_v215, .slice (some adz_v219) y218.length co23, adz_v219, gb222) _ ⟨(by (with_reducible repeat (first | apply Kd.R_alloc | apply Kd.R_drewN | apply Kd.R_drew)); exact HO216.out), (by (with_reducible repeat (first | apply Kd.R_alloc | apply Kd.R_drewN | apply Kd.R_drew)); exact HO220.out), ⟨_, rfl⟩, ⟨_, rfl⟩, (pk BK213), (pk BK222), GW222.out, GE222.out, NB213_222.out, NB222_213.out, (by repeat (first | (with_reducible first | exact HB.out | apply below_alloc | apply pw_below_drewN | apply below_drew1 | refine below_set ?_ GE213.out | refine below_set ?_ GE222.out) | exact HB.out))⟩)
  · skip
    rintro ⟨v215, adz_v215, v219, adz_v219⟩ w20 ⟨h0_, h1_, h2_, h3_, h4_, h5_⟩
    have HO216 : Aside0 (Kd.R Kd.string 9 w20 w.heap.size (fun k_ => some k_ ≠ (v219 : Value).ownBlock) v215 y214) := ⟨h0_⟩
    have HO220 : Aside0 (Kd.R Kd.string 9 w20 w.heap.size (fun k_ => some k_ ≠ (v215 : Value).ownBlock) v219 y218) := ⟨h1_⟩
    have HA_HO216 : Aside0 (∃ c_, (v215 : Value) = .slice (some adz_v215) y214.length c_) := ⟨h2_⟩
    have HA_HO220 : Aside0 (∃ c_, (v219 : Value) = .slice (some adz_v219) y218.length c_) := ⟨h3_⟩
    replace BK213 := Aside0.mk h4_
    replace HB : Aside0 (Below w.heap.size w w20) := ⟨h5_⟩
    clear h0_ h1_ h2_ h3_ h4_ h5_
    have hHeld := trivial
    obtain ⟨co21, eo21⟩ := HA_HO216.out
    clear HA_HO216
    subst eo21
    obtain ⟨co22, eo22⟩ := HA_HO220.out
    clear HA_HO220
    subst eo22
    refine norm_ (a' := ?_) ?_ ?_
    rotate_left
    · simp only [putAll, Act.put, List.setIfInBounds_toArray, List.set_cons_zero, List.set_cons_succ]
      rfl
    refine one_ (i := 14) (N := some 7) #[true, true, true, true, true, true, true, true, true, true, true, true, true, true, true, false] rfl rfl (one_of HT_.out (by kernel_rfl)) (by decide) (fun K hK => ?_)
    refine box_step ?hg (N := 7) ?hd (cs := #[.string (⟨#[]⟩ : ByteArray), .string (⟨#[]⟩ : ByteArray), .slice none 0 0, .int .i64 0]) (t := 26) ?hr ?_; (case hd => rfl); (case hg => rfl); (case hr => first | (go_simp; done) | (go_simp; rfl))
    intro gb222 hg w23 hbox hb
    have BK222 := Aside0.mk (hbox)
    have GW222 := Aside0.mk ((by rw [hg]; exact (below_size (by repeat (first | (with_reducible first | exact HB.out | apply below_alloc | apply pw_below_drewN | apply below_drew1 | refine below_set ?_ GE213.out) | exact HB.out))) : w.heap.size ≤ gb222))
    have GE222 := GW222
    have NB213_222 := Aside0.mk ((ne_lt hg (pk BK213) : gb213 ≠ gb222))
    have NB222_213 := Aside0.mk ((ne_gt hg (pk BK213) : gb222 ≠ gb213))
    replace HO216 := Aside0.mk (Kd.R_below (by (with_reducible repeat (first | apply Kd.R_alloc | apply Kd.R_drewN | apply Kd.R_drew)); exact HO216.out) hb)
    replace HO220 := Aside0.mk (Kd.R_below (by (with_reducible repeat (first | apply Kd.R_alloc | apply Kd.R_drewN | apply Kd.R_drew)); exact HO220.out) hb)
    replace BK213 := Aside0.mk (blk_below (g := gb213) (pk BK213) hb)
    replace HB := Aside0.mk (below_step (by repeat (first | (with_reducible first | exact HB.out | apply below_alloc | apply pw_below_drewN | apply below_drew1 | refine below_set ?_ GE213.out) | exact HB.out)) hb)
    clear hb hbox hg
    refine hK.out _ _ trivial (fun hHeld => ?_)
    clear hK K
    refine norm_ (a' := ?_) ?_ ?_
    rotate_left
    · show Act.put _ (some 7) _ = _
      simp only [Act.put, List.setIfInBounds_toArray, List.set_cons_zero, List.set_cons_succ, i64_w, i32_w]
      rfl
    exact norm0_ (hJ0_4_5_10_14 (.slice (some adz_v215) y214.length co21, adz_v215, .slice (some adz_v219) y218.length co22, adz_v219, gb222) _ ⟨(by (with_reducible repeat (first | apply Kd.R_alloc | apply Kd.R_drewN | apply Kd.R_drew)); exact HO216.out), (by (with_reducible repeat (first | apply Kd.R_alloc | apply Kd.R_drewN | apply Kd.R_drew)); exact HO220.out), ⟨_, rfl⟩, ⟨_, rfl⟩, (pk BK213), (pk BK222), GW222.out, GE222.out, NB213_222.out, NB222_213.out, (by repeat (first | (with_reducible first | exact HB.out | apply below_alloc | apply pw_below_drewN | apply below_drew1 | refine below_set ?_ GE213.out | refine below_set ?_ GE222.out) | exact HB.out))⟩)
end

section
/-! ### damperref1_sign: function 76 -/
def damperref1_sign.j0 : Nat → Int → Option (Bool)
  | 0, _ => none
  | k + 1, x0 => if x0 ≥ 97 then (if x0 ≤ 122 then (some true) else (if x0 ≥ 48 then (if x0 ≤ 57 then (some true) else (some (x0 == 45))) else (some (x0 == 45)))) else (if x0 ≥ 48 then (if x0 ≤ 57 then (some true) else (some (x0 == 45))) else (some (x0 == 45)))
def damperref1_sign.f (k : Nat) (a0 : Int) : Option (Bool) := damperref1_sign.j0 k a0
theorem damperref1_sign.mono_l : ∀ k, (∀ y0, LeO (damperref1_sign.j0 k y0) (damperref1_sign.j0 (k + 1) y0))
  | 0 => fun _ r h => by simp [damperref1_sign.j0] at h
  | k + 1 => by
    have ih0 := damperref1_sign.mono_l k
    · intro y0
      unfold damperref1_sign.j0
      repeat' first
      | (with_reducible exact ih0 _)
      | (with_reducible exact LeO.refl _)
      | (with_reducible exact LeO.none _)
      | (with_reducible refine LeO.ite ?_ ?_)
      | (with_reducible refine LeO.bind ?_ (fun _ => ?_))
      | exact ih0 _
      | exact LeO.none _
      | refine LeO.ite ?_ ?_
      | refine LeO.bind ?_ (fun _ => ?_)
theorem damperref1_sign.mono : ∀ a0 k, LeO (damperref1_sign.f k a0) (damperref1_sign.f (k + 1) a0) := by
  intro a0 k
  have ih0 := damperref1_sign.mono_l k
  unfold damperref1_sign.f
  repeat' first
      | (with_reducible exact ih0 _)
      | (with_reducible exact LeO.refl _)
      | (with_reducible exact LeO.none _)
      | (with_reducible refine LeO.ite ?_ ?_)
      | (with_reducible refine LeO.bind ?_ (fun _ => ?_))
      | exact ih0 _
      | exact LeO.none _
      | refine LeO.ite ?_ ?_
      | refine LeO.bind ?_ (fun _ => ?_)
set_option maxHeartbeats 8000000 in
set_option maxRecDepth 100000 in
theorem damperref1_sign.calls (k : Nat) (a0 : Int) (r : Bool) (w : World) (h : damperref1_sign.f k a0 = some r) :
    Calls Tryd.prog 76 #[.int .u8 a0] w fun e w' => e = .returned (.bool r) ∧ Drawn0 w w' := by
  have H : (damperref1_sign.j0 k a0) = some r := h
  clear h
  have HC2 := Aside0.mk H
  clear H
  go_enter Tryd.func76, Tryd.ntmps76
  go_upto_region 0 with (fail)
  go_cut [] (fun wc => ∃ (kq : Nat), Aside0 (damperref1_sign.j0 kq a0 = some r) ∧ Aside0 (kq ≤ k) ∧ Drawn0 w wc)
  case first =>
    have H := HC2.out
    clear HC2
    have H' := Aside0.mk H
    clear H
    go_wp2
    go_meet
    case rel => exact ⟨_, H', ⟨by first | omega | exact Nat.le_refl _⟩, by repeat (first | exact Drawn0.refl _ | apply Drawn0.step)⟩
  case rest =>
    clear HC2
    try clear p2
    obtain ⟨kq, HA, HJ1, ⟨mc1, rfl⟩⟩ := hcut
    cases kq with
    | zero => exact absurd HA.out (by simp [damperref1_sign.j0])
    | succ kj1 =>
      have H := HA.out
      clear HA
      simp only [damperref1_sign.j0] at H
      by_cases c3 : a0 ≥ 97
      · rw [if_pos c3] at H
        have c3b0 : decide (97 ≤ a0) = true := decide_eq_true c3
        clear c3
        by_cases c4 : a0 ≤ 122
        · rw [if_pos c4] at H
          have c4b0 : decide (a0 ≤ 122) = true := decide_eq_true c4
          clear c4
          obtain rfl := Option.some.inj H
          go_wp2
          go_ret
          exact ⟨by first | rfl | (simp; done) | (simp [*]; done), by repeat (first | exact Drawn0.refl _ | apply Drawn0.step)⟩
        · rw [if_neg c4] at H
          have c4b0 : decide (a0 ≤ 122) = false := decide_eq_false c4
          clear c4
          by_cases c5 : a0 ≥ 48
          · rw [if_pos c5] at H
            have c5b0 : decide (48 ≤ a0) = true := decide_eq_true c5
            clear c5
            by_cases c6 : a0 ≤ 57
            · rw [if_pos c6] at H
              have c6b0 : decide (a0 ≤ 57) = true := decide_eq_true c6
              clear c6
              obtain rfl := Option.some.inj H
              go_wp2
              go_ret
              exact ⟨by first | rfl | (simp; done) | (simp [*]; done), by repeat (first | exact Drawn0.refl _ | apply Drawn0.step)⟩
            · rw [if_neg c6] at H
              have c6b0 : decide (a0 ≤ 57) = false := decide_eq_false c6
              clear c6
              obtain rfl := Option.some.inj H
              go_wp2
              go_ret
              exact ⟨by first | rfl | (simp; done) | (simp [*]; done), by repeat (first | exact Drawn0.refl _ | apply Drawn0.step)⟩
          · rw [if_neg c5] at H
            have c5b0 : decide (48 ≤ a0) = false := decide_eq_false c5
            clear c5
            obtain rfl := Option.some.inj H
            go_wp2
            go_ret
            exact ⟨by first | rfl | (simp; done) | (simp [*]; done), by repeat (first | exact Drawn0.refl _ | apply Drawn0.step)⟩
      · rw [if_neg c3] at H
        have c3b0 : decide (97 ≤ a0) = false := decide_eq_false c3
        clear c3
        by_cases c7 : a0 ≥ 48
        · rw [if_pos c7] at H
          have c7b0 : decide (48 ≤ a0) = true := decide_eq_true c7
          clear c7
          by_cases c8 : a0 ≤ 57
          · rw [if_pos c8] at H
            have c8b0 : decide (a0 ≤ 57) = true := decide_eq_true c8
            clear c8
            obtain rfl := Option.some.inj H
            go_wp2
            go_ret
            exact ⟨by first | rfl | (simp; done) | (simp [*]; done), by repeat (first | exact Drawn0.refl _ | apply Drawn0.step)⟩
          · rw [if_neg c8] at H
            have c8b0 : decide (a0 ≤ 57) = false := decide_eq_false c8
            clear c8
            obtain rfl := Option.some.inj H
            go_wp2
            go_ret
            exact ⟨by first | rfl | (simp; done) | (simp [*]; done), by repeat (first | exact Drawn0.refl _ | apply Drawn0.step)⟩
        · rw [if_neg c7] at H
          have c7b0 : decide (48 ≤ a0) = false := decide_eq_false c7
          clear c7
          obtain rfl := Option.some.inj H
          go_wp2
          go_ret
          exact ⟨by first | rfl | (simp; done) | (simp [*]; done), by repeat (first | exact Drawn0.refl _ | apply Drawn0.step)⟩
end

end Go.Proofs.YtalpoojepffldaaDoor.Ma
