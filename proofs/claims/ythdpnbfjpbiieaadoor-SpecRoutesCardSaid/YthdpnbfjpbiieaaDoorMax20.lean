-- Written by a program of this session (wip/tools/myprint.py), in the form of the kit's print. Not trusted: Lean checks it.
import Derived.Test.YthdpnbfjpbiieaaDoorMax0
import Derived.Test.YthdpnbfjpbiieaaDoorMax14
namespace Go.Proofs.YthdpnbfjpbiieaaDoor.Ma
open Go.RowKit Go.Proofs.YthdpnbfjpbiieaaDoorW.PrintWords Go.Proofs.YthdpnbfjpbiieaaDoorW.PrintLast Go.Proofs.YthdpnbfjpbiieaaDoorW.PrintMore
attribute [local go_sem] max2_int min2_int max_two min_two max_three min_three max_four min_four   -- for this text's walks alone
set_option linter.unusedVariables false
set_option linter.unusedSimpArgs false

/-! ### damperlaw2_Route: function 18 -/
mutual
def damperlaw2_Route.j0 : Nat → List Int → Int → Int → ByteArray → ByteArray → Int → Option (ByteArray × ByteArray × (List (S41)) × Int)
  | 0, _, _, _, _, _, _ => none
  | k + 1, x1, x8, x9, x224000, x224001, x224003 => damperlaw2_Route.l0 k x1 x8 x9 0 x224000 x224001 ([] : List (S41)) x224003
def damperlaw2_Route.l0 : Nat → List Int → Int → Int → Int → ByteArray → ByteArray → List (S41) → Int → Option (ByteArray × ByteArray × (List (S41)) × Int)
  | 0, _, _, _, _, _, _, _, _ => none
  | k + 1, x1, x8, x9, x10, x224000, x224001, x224002, x224003 => if x10 < x9 then (if (wrap64 (x10 + 1)) < (x1.length : Int) then (if 0 ≤ (wrap64 (x10 + 1)) then (damperlaw2_Route.j2 k x1 x8 x9 x10 (rd x1 (wrap64 (x10 + 1))) x224000 x224001 x224002 x224003) else (none)) else (damperlaw2_Route.j2 k x1 x8 x9 x10 x10 x224000 x224001 x224002 x224003)) else (some (x224000, x224001, x224002, x224003))
def damperlaw2_Route.j2 : Nat → List Int → Int → Int → Int → Int → ByteArray → ByteArray → List (S41) → Int → Option (ByteArray × ByteArray × (List (S41)) × Int)
  | 0, _, _, _, _, _, _, _, _, _ => none
  | k + 1, x1, x8, x9, x10, x11, x224000, x224001, x224002, x224003 => if (wrap64 (x8 + 1)) = 0 then (none) else (if x10 = (wrap64 (x9 - 1)) then (damperlaw2_Route.j3 k x1 x8 x9 x10 x11 x224000 x224001 x224002 x224003 (⟨#[]⟩ : ByteArray) (⟨#[]⟩ : ByteArray) x8) else (damperlaw2_Route.j3 k x1 x8 x9 x10 x11 x224000 x224001 x224002 x224003 (⟨#[]⟩ : ByteArray) (⟨#[]⟩ : ByteArray) (wi x11 (wrap64 (x8 + 1)))))
def damperlaw2_Route.j3 : Nat → List Int → Int → Int → Int → Int → ByteArray → ByteArray → List (S41) → Int → ByteArray → ByteArray → Int → Option (ByteArray × ByteArray × (List (S41)) × Int)
  | 0, _, _, _, _, _, _, _, _, _, _, _, _ => none
  | k + 1, x1, x8, x9, x10, x11, x224000, x224001, x224002, x224003, x227000, x227001, x227002 => if (wi (wrap64 (Int.tdiv x11 101)) 3) > 0 then (if x224001.size + 1 ≤ 9223372036854775807 then ((some (([(wrap64 (49 + (wi (wrap64 (Int.tdiv x11 303)) 4))) % 256] : List Int) : List Int)).bind fun y227 => (if (x224001 ++ (⟨#[45]⟩ : ByteArray)).size + (strOfNums y227).size ≤ 9223372036854775807 then (damperlaw2_Route.j4 k x1 x8 x9 x10 x11 x224000 x224001 x224002 x224003 ((x224001 ++ (⟨#[45]⟩ : ByteArray)) ++ (strOfNums y227)) x227001 x227002) else (none))) else (none)) else (damperlaw2_Route.j4 k x1 x8 x9 x10 x11 x224000 x224001 x224002 x224003 x227000 x227001 x227002)
def damperlaw2_Route.j4 : Nat → List Int → Int → Int → Int → Int → ByteArray → ByteArray → List (S41) → Int → ByteArray → ByteArray → Int → Option (ByteArray × ByteArray × (List (S41)) × Int)
  | 0, _, _, _, _, _, _, _, _, _, _, _, _ => none
  | k + 1, x1, x8, x9, x10, x11, x224000, x224001, x224002, x224003, x227000, x227001, x227002 => if (wi (wrap64 (Int.tdiv x11 1212)) 3) = 0 then ((some (([(wrap64 (48 + x10)) % 256] : List Int) : List Int)).bind fun y230 => (if 1 + (strOfNums y230).size ≤ 9223372036854775807 then (if x224002.length < 3518437208883 then (damperlaw2_Route.l0 k x1 (wrap64 (x8 - x227002)) x9 (wrap64 (x10 + 1)) x224000 x224001 (x224002 ++ [(⟨x227000, (⟨#[116]⟩ : ByteArray) ++ (strOfNums y230), x227002⟩ : S41)]) x224003) else (none)) else (none))) else (if x224002.length < 3518437208883 then (damperlaw2_Route.l0 k x1 (wrap64 (x8 - x227002)) x9 (wrap64 (x10 + 1)) x224000 x224001 (x224002 ++ [(⟨x227000, x227001, x227002⟩ : S41)]) x224003) else (none))
end
def damperlaw2_Route.f (k : Nat) (a0 : Int) (l1 : List Int) (a2 : Int) : Option (ByteArray × ByteArray × (List (S41)) × Int) := (some (([(⟨#[102, 114, 111, 110, 116]⟩ : ByteArray), (⟨#[98, 97, 99, 107]⟩ : ByteArray), (⟨#[114, 45, 49]⟩ : ByteArray)] : List ByteArray) : List ByteArray)).bind fun y215 => (if 0 ≤ (wi a0 3) then (if (wi a0 3) < (y215.length : Int) then ((some (([(⟨#[119, 101, 98]⟩ : ByteArray), (⟨#[97, 112, 105]⟩ : ByteArray), (⟨#[97, 45, 98]⟩ : ByteArray)] : List ByteArray) : List ByteArray)).bind fun y219 => (if 0 ≤ (wi (wrap64 (Int.tdiv a0 3)) 3) then (if (wi (wrap64 (Int.tdiv a0 3)) 3) < (y219.length : Int) then (if (l1.length : Int) > 0 then (if 0 < (l1.length : Int) then (damperlaw2_Route.j0 k l1 100 (wrap64 (1 + (wi (rd l1 0) 6))) (rdOf ByteArray.empty y215 (wi a0 3)) (rdOf ByteArray.empty y219 (wi (wrap64 (Int.tdiv a0 3)) 3)) (wi a2 61)) else (none)) else (damperlaw2_Route.j0 k l1 100 1 (rdOf ByteArray.empty y215 (wi a0 3)) (rdOf ByteArray.empty y219 (wi (wrap64 (Int.tdiv a0 3)) 3)) (wi a2 61))) else (none)) else (none))) else (none)) else (none))
theorem damperlaw2_Route.mono_l : ∀ k, (∀ y0 y1 y2 y3 y4 y5, LeO (damperlaw2_Route.j0 k y0 y1 y2 y3 y4 y5) (damperlaw2_Route.j0 (k + 1) y0 y1 y2 y3 y4 y5)) ∧ (∀ y0 y1 y2 y3 y4 y5 y6 y7, LeO (damperlaw2_Route.l0 k y0 y1 y2 y3 y4 y5 y6 y7) (damperlaw2_Route.l0 (k + 1) y0 y1 y2 y3 y4 y5 y6 y7)) ∧ (∀ y0 y1 y2 y3 y4 y5 y6 y7 y8, LeO (damperlaw2_Route.j2 k y0 y1 y2 y3 y4 y5 y6 y7 y8) (damperlaw2_Route.j2 (k + 1) y0 y1 y2 y3 y4 y5 y6 y7 y8)) ∧ (∀ y0 y1 y2 y3 y4 y5 y6 y7 y8 y9 y10 y11, LeO (damperlaw2_Route.j3 k y0 y1 y2 y3 y4 y5 y6 y7 y8 y9 y10 y11) (damperlaw2_Route.j3 (k + 1) y0 y1 y2 y3 y4 y5 y6 y7 y8 y9 y10 y11)) ∧ (∀ y0 y1 y2 y3 y4 y5 y6 y7 y8 y9 y10 y11, LeO (damperlaw2_Route.j4 k y0 y1 y2 y3 y4 y5 y6 y7 y8 y9 y10 y11) (damperlaw2_Route.j4 (k + 1) y0 y1 y2 y3 y4 y5 y6 y7 y8 y9 y10 y11))
  | 0 => ⟨fun _ _ _ _ _ _ r h => by simp [damperlaw2_Route.j0] at h, fun _ _ _ _ _ _ _ _ r h => by simp [damperlaw2_Route.l0] at h, fun _ _ _ _ _ _ _ _ _ r h => by simp [damperlaw2_Route.j2] at h, fun _ _ _ _ _ _ _ _ _ _ _ _ r h => by simp [damperlaw2_Route.j3] at h, fun _ _ _ _ _ _ _ _ _ _ _ _ r h => by simp [damperlaw2_Route.j4] at h⟩
  | k + 1 => by
    obtain ⟨ih0, ih1, ih2, ih3, ih4⟩ := damperlaw2_Route.mono_l k
    refine ⟨?_, ?_, ?_, ?_, ?_⟩
    · intro y0 y1 y2 y3 y4 y5
      unfold damperlaw2_Route.j0
      repeat' first
      | (with_reducible exact ih0 _ _ _ _ _ _)
      | (with_reducible exact ih1 _ _ _ _ _ _ _ _)
      | (with_reducible exact ih2 _ _ _ _ _ _ _ _ _)
      | (with_reducible exact ih3 _ _ _ _ _ _ _ _ _ _ _ _)
      | (with_reducible exact ih4 _ _ _ _ _ _ _ _ _ _ _ _)
      | (with_reducible exact LeO.refl _)
      | (with_reducible exact LeO.none _)
      | (with_reducible refine LeO.ite ?_ ?_)
      | (with_reducible refine LeO.bind ?_ (fun _ => ?_))
      | exact ih0 _ _ _ _ _ _
      | exact ih1 _ _ _ _ _ _ _ _
      | exact ih2 _ _ _ _ _ _ _ _ _
      | exact ih3 _ _ _ _ _ _ _ _ _ _ _ _
      | exact ih4 _ _ _ _ _ _ _ _ _ _ _ _
      | exact LeO.none _
      | refine LeO.ite ?_ ?_
      | refine LeO.bind ?_ (fun _ => ?_)
    · intro y0 y1 y2 y3 y4 y5 y6 y7
      unfold damperlaw2_Route.l0
      repeat' first
      | (with_reducible exact ih0 _ _ _ _ _ _)
      | (with_reducible exact ih1 _ _ _ _ _ _ _ _)
      | (with_reducible exact ih2 _ _ _ _ _ _ _ _ _)
      | (with_reducible exact ih3 _ _ _ _ _ _ _ _ _ _ _ _)
      | (with_reducible exact ih4 _ _ _ _ _ _ _ _ _ _ _ _)
      | (with_reducible exact LeO.refl _)
      | (with_reducible exact LeO.none _)
      | (with_reducible refine LeO.ite ?_ ?_)
      | (with_reducible refine LeO.bind ?_ (fun _ => ?_))
      | exact ih0 _ _ _ _ _ _
      | exact ih1 _ _ _ _ _ _ _ _
      | exact ih2 _ _ _ _ _ _ _ _ _
      | exact ih3 _ _ _ _ _ _ _ _ _ _ _ _
      | exact ih4 _ _ _ _ _ _ _ _ _ _ _ _
      | exact LeO.none _
      | refine LeO.ite ?_ ?_
      | refine LeO.bind ?_ (fun _ => ?_)
    · intro y0 y1 y2 y3 y4 y5 y6 y7 y8
      unfold damperlaw2_Route.j2
      repeat' first
      | (with_reducible exact ih0 _ _ _ _ _ _)
      | (with_reducible exact ih1 _ _ _ _ _ _ _ _)
      | (with_reducible exact ih2 _ _ _ _ _ _ _ _ _)
      | (with_reducible exact ih3 _ _ _ _ _ _ _ _ _ _ _ _)
      | (with_reducible exact ih4 _ _ _ _ _ _ _ _ _ _ _ _)
      | (with_reducible exact LeO.refl _)
      | (with_reducible exact LeO.none _)
      | (with_reducible refine LeO.ite ?_ ?_)
      | (with_reducible refine LeO.bind ?_ (fun _ => ?_))
      | exact ih0 _ _ _ _ _ _
      | exact ih1 _ _ _ _ _ _ _ _
      | exact ih2 _ _ _ _ _ _ _ _ _
      | exact ih3 _ _ _ _ _ _ _ _ _ _ _ _
      | exact ih4 _ _ _ _ _ _ _ _ _ _ _ _
      | exact LeO.none _
      | refine LeO.ite ?_ ?_
      | refine LeO.bind ?_ (fun _ => ?_)
    · intro y0 y1 y2 y3 y4 y5 y6 y7 y8 y9 y10 y11
      unfold damperlaw2_Route.j3
      repeat' first
      | (with_reducible exact ih0 _ _ _ _ _ _)
      | (with_reducible exact ih1 _ _ _ _ _ _ _ _)
      | (with_reducible exact ih2 _ _ _ _ _ _ _ _ _)
      | (with_reducible exact ih3 _ _ _ _ _ _ _ _ _ _ _ _)
      | (with_reducible exact ih4 _ _ _ _ _ _ _ _ _ _ _ _)
      | (with_reducible exact LeO.refl _)
      | (with_reducible exact LeO.none _)
      | (with_reducible refine LeO.ite ?_ ?_)
      | (with_reducible refine LeO.bind ?_ (fun _ => ?_))
      | exact ih0 _ _ _ _ _ _
      | exact ih1 _ _ _ _ _ _ _ _
      | exact ih2 _ _ _ _ _ _ _ _ _
      | exact ih3 _ _ _ _ _ _ _ _ _ _ _ _
      | exact ih4 _ _ _ _ _ _ _ _ _ _ _ _
      | exact LeO.none _
      | refine LeO.ite ?_ ?_
      | refine LeO.bind ?_ (fun _ => ?_)
    · intro y0 y1 y2 y3 y4 y5 y6 y7 y8 y9 y10 y11
      unfold damperlaw2_Route.j4
      repeat' first
      | (with_reducible exact ih0 _ _ _ _ _ _)
      | (with_reducible exact ih1 _ _ _ _ _ _ _ _)
      | (with_reducible exact ih2 _ _ _ _ _ _ _ _ _)
      | (with_reducible exact ih3 _ _ _ _ _ _ _ _ _ _ _ _)
      | (with_reducible exact ih4 _ _ _ _ _ _ _ _ _ _ _ _)
      | (with_reducible exact LeO.refl _)
      | (with_reducible exact LeO.none _)
      | (with_reducible refine LeO.ite ?_ ?_)
      | (with_reducible refine LeO.bind ?_ (fun _ => ?_))
      | exact ih0 _ _ _ _ _ _
      | exact ih1 _ _ _ _ _ _ _ _
      | exact ih2 _ _ _ _ _ _ _ _ _
      | exact ih3 _ _ _ _ _ _ _ _ _ _ _ _
      | exact ih4 _ _ _ _ _ _ _ _ _ _ _ _
      | exact LeO.none _
      | refine LeO.ite ?_ ?_
      | refine LeO.bind ?_ (fun _ => ?_)
theorem damperlaw2_Route.mono : ∀ a0 a1 a2 k, LeO (damperlaw2_Route.f k a0 a1 a2) (damperlaw2_Route.f (k + 1) a0 a1 a2) := by
  intro a0 a1 a2 k
  obtain ⟨ih0, ih1, ih2, ih3, ih4⟩ := damperlaw2_Route.mono_l k
  unfold damperlaw2_Route.f
  repeat' first
      | (with_reducible exact ih0 _ _ _ _ _ _)
      | (with_reducible exact ih1 _ _ _ _ _ _ _ _)
      | (with_reducible exact ih2 _ _ _ _ _ _ _ _ _)
      | (with_reducible exact ih3 _ _ _ _ _ _ _ _ _ _ _ _)
      | (with_reducible exact ih4 _ _ _ _ _ _ _ _ _ _ _ _)
      | (with_reducible exact LeO.refl _)
      | (with_reducible exact LeO.none _)
      | (with_reducible refine LeO.ite ?_ ?_)
      | (with_reducible refine LeO.bind ?_ (fun _ => ?_))
      | exact ih0 _ _ _ _ _ _
      | exact ih1 _ _ _ _ _ _ _ _
      | exact ih2 _ _ _ _ _ _ _ _ _
      | exact ih3 _ _ _ _ _ _ _ _ _ _ _ _
      | exact ih4 _ _ _ _ _ _ _ _ _ _ _ _
      | exact LeO.none _
      | refine LeO.ite ?_ ?_
      | refine LeO.bind ?_ (fun _ => ?_)
def damperlaw2_Route.T1 : Bool × List (List Nat × List Nat) := (true, [([], []), ([], []), ([1], [1]), ([0, 2], [0, 2]), ([3], [3]), ([], []), ([], []), ([6], [6]), ([7, 2], [7]), ([5, 8], [5, 8]), ([9], [9]), ([], []), ([11, 8], [11]), ([4, 10, 12], [4, 10, 12]), ([], []), ([14, 13, 12, 0, 1, 2, 3, 4, 5, 6, 7, 8, 9, 10, 11, 12, 13, 14], [13, 14])])
def damperlaw2_Route.B1 : List Nat := [0, 0, 2, 7, 15, 0, 0, 64, 198, 486, 998, 0, 2502, 8191, 0, 32767]
theorem damperlaw2_Route.tab1 : rtab .any (opsOf Tryd.f18 1) = damperlaw2_Route.T1 := by kernel_rfl
theorem damperlaw2_Route.bits1 : waitsOk damperlaw2_Route.T1.2 damperlaw2_Route.B1 = true := by kernel_rfl
def damperlaw2_Route.T16 : Bool × List (List Nat × List Nat) := (true, [([], []), ([0], [0]), ([1], [1]), ([], []), ([3], [3]), ([4], [4]), ([5], [5]), ([6], [6]), ([7], [7]), ([8], [8]), ([2, 9], [2, 9]), ([0, 1, 2, 3, 4, 5, 6, 7, 8, 9, 10], []), ([11, 10, 5, 0, 1, 2, 3, 4, 5, 6, 7, 8, 9, 10], [10, 11])])
def damperlaw2_Route.B16 : List Nat := [0, 1, 3, 0, 8, 24, 56, 120, 248, 504, 1023, 2047, 4095]
theorem damperlaw2_Route.tab16 : rtab .any (opsOf Tryd.f18 16) = damperlaw2_Route.T16 := by kernel_rfl
theorem damperlaw2_Route.bits16 : waitsOk damperlaw2_Route.T16.2 damperlaw2_Route.B16 = true := by kernel_rfl
set_option maxHeartbeats 8000000 in
set_option maxRecDepth 100000 in
theorem damperlaw2_Route.calls (k : Nat) (a0 : Int) (A1 : Option Addr) (c1 : Nat) (l1 : List Int) (a2 : Int) (r1 : ByteArray) (r2 : ByteArray) (r3 : List (S41)) (r4 : Int) (w : World) (hr1 : Kd.C (Kd.int .i64) w A1 l1.length l1) (hc1 : l1.length ≤ c1) (h : damperlaw2_Route.f k a0 l1 a2 = some (r1, r2, r3, r4)) :
    Calls Tryd.prog 18 #[.int .i64 a0, .slice A1 l1.length c1, .int .i64 a2] w fun e w' => ∃ v2_ : Value, e = .returned (.agg #[.string r1, .string r2, v2_, .int .i64 r4]) ∧ Kd.R k41 41 w' w.heap.size (fun _ => True) v2_ r3 ∧ Below w.heap.size w w' := by
  have hu35 := Tryd.underlying35
  have hu41 := Tryd.underlying41
  have HR1 := Aside0.mk hr1
  have HC1 := Aside0.mk hc1
  clear hr1 hc1
  have HB := Aside0.mk (Below.refl w.heap.size w)
  have H : ((some (([(⟨#[102, 114, 111, 110, 116]⟩ : ByteArray), (⟨#[98, 97, 99, 107]⟩ : ByteArray), (⟨#[114, 45, 49]⟩ : ByteArray)] : List ByteArray) : List ByteArray)).bind fun y215 => (if 0 ≤ (wi a0 3) then (if (wi a0 3) < (y215.length : Int) then ((some (([(⟨#[119, 101, 98]⟩ : ByteArray), (⟨#[97, 112, 105]⟩ : ByteArray), (⟨#[97, 45, 98]⟩ : ByteArray)] : List ByteArray) : List ByteArray)).bind fun y219 => (if 0 ≤ (wi (wrap64 (Int.tdiv a0 3)) 3) then (if (wi (wrap64 (Int.tdiv a0 3)) 3) < (y219.length : Int) then (if (l1.length : Int) > 0 then (if 0 < (l1.length : Int) then (damperlaw2_Route.j0 k l1 100 (wrap64 (1 + (wi (rd l1 0) 6))) (rdOf ByteArray.empty y215 (wi a0 3)) (rdOf ByteArray.empty y219 (wi (wrap64 (Int.tdiv a0 3)) 3)) (wi a2 61)) else (none)) else (damperlaw2_Route.j0 k l1 100 1 (rdOf ByteArray.empty y215 (wi a0 3)) (rdOf ByteArray.empty y219 (wi (wrap64 (Int.tdiv a0 3)) 3)) (wi a2 61))) else (none)) else (none))) else (none)) else (none))) = some (r1, r2, r3, r4) := h
  clear h
  obtain ⟨y215, hy215⟩ : ∃ y_ : List ByteArray, y_ = (([(⟨#[102, 114, 111, 110, 116]⟩ : ByteArray), (⟨#[98, 97, 99, 107]⟩ : ByteArray), (⟨#[114, 45, 49]⟩ : ByteArray)] : List ByteArray)) := ⟨_, rfl⟩
  replace H : (if 0 ≤ (wi a0 3) then (if (wi a0 3) < (y215.length : Int) then ((some (([(⟨#[119, 101, 98]⟩ : ByteArray), (⟨#[97, 112, 105]⟩ : ByteArray), (⟨#[97, 45, 98]⟩ : ByteArray)] : List ByteArray) : List ByteArray)).bind fun y219 => (if 0 ≤ (wi (wrap64 (Int.tdiv a0 3)) 3) then (if (wi (wrap64 (Int.tdiv a0 3)) 3) < (y219.length : Int) then (if (l1.length : Int) > 0 then (if 0 < (l1.length : Int) then (damperlaw2_Route.j0 k l1 100 (wrap64 (1 + (wi (rd l1 0) 6))) (rdOf ByteArray.empty y215 (wi a0 3)) (rdOf ByteArray.empty y219 (wi (wrap64 (Int.tdiv a0 3)) 3)) (wi a2 61)) else (none)) else (damperlaw2_Route.j0 k l1 100 1 (rdOf ByteArray.empty y215 (wi a0 3)) (rdOf ByteArray.empty y219 (wi (wrap64 (Int.tdiv a0 3)) 3)) (wi a2 61))) else (none)) else (none))) else (none)) else (none)) = some (r1, r2, r3, r4) := by first | (rw [hy215]; with_reducible exact H) | (have H2_ := (Option.bind_some _ _).symm.trans H; rw [hy215]; with_reducible exact H2_) | (have H2_ := (Option.bind_some _ _).symm.trans H; with_reducible exact H2_) | with_reducible exact H | (rw [hy215]; exact H) | exact H
  have Ny215 := Aside0.mk hy215
  clear hy215
  obtain ⟨ji4, hji4⟩ : ∃ j_ : Int, (wi a0 3) = j_ := ⟨_, rfl⟩
  replace H : (if 0 ≤ (ji4) then (if (ji4) < (y215.length : Int) then ((some (([(⟨#[119, 101, 98]⟩ : ByteArray), (⟨#[97, 112, 105]⟩ : ByteArray), (⟨#[97, 45, 98]⟩ : ByteArray)] : List ByteArray) : List ByteArray)).bind fun y219 => (if 0 ≤ (wi (wrap64 (Int.tdiv a0 3)) 3) then (if (wi (wrap64 (Int.tdiv a0 3)) 3) < (y219.length : Int) then (if (l1.length : Int) > 0 then (if 0 < (l1.length : Int) then (damperlaw2_Route.j0 k l1 100 (wrap64 (1 + (wi (rd l1 0) 6))) (rdOf ByteArray.empty y215 (ji4)) (rdOf ByteArray.empty y219 (wi (wrap64 (Int.tdiv a0 3)) 3)) (wi a2 61)) else (none)) else (damperlaw2_Route.j0 k l1 100 1 (rdOf ByteArray.empty y215 (ji4)) (rdOf ByteArray.empty y219 (wi (wrap64 (Int.tdiv a0 3)) 3)) (wi a2 61))) else (none)) else (none))) else (none)) else (none)) = some (r1, r2, r3, r4) := by first | (rw [hji4] at H; exact H) | (simp only [hji4] at H ⊢; exact H)
  by_cases c5 : 0 ≤ (ji4)
  rotate_left
  · rw [if_neg c5] at H
    exact absurd H (by simp)
  rw [if_pos c5] at H
  have c5b0 : decide (0 ≤ (ji4)) = true := decide_eq_true c5
  clear c5
  by_cases c6 : (ji4) < (y215.length : Int)
  rotate_left
  · rw [if_neg c6] at H
    exact absurd H (by simp)
  rw [if_pos c6] at H
  have c6b0 : decide ((ji4) < (y215.length : Int)) = true := decide_eq_true c6
  clear c6
  obtain ⟨y219, hy219⟩ : ∃ y_ : List ByteArray, y_ = (([(⟨#[119, 101, 98]⟩ : ByteArray), (⟨#[97, 112, 105]⟩ : ByteArray), (⟨#[97, 45, 98]⟩ : ByteArray)] : List ByteArray)) := ⟨_, rfl⟩
  replace H : (if 0 ≤ (wi (wrap64 (Int.tdiv a0 3)) 3) then (if (wi (wrap64 (Int.tdiv a0 3)) 3) < (y219.length : Int) then (if (l1.length : Int) > 0 then (if 0 < (l1.length : Int) then (damperlaw2_Route.j0 k l1 100 (wrap64 (1 + (wi (rd l1 0) 6))) (rdOf ByteArray.empty y215 (ji4)) (rdOf ByteArray.empty y219 (wi (wrap64 (Int.tdiv a0 3)) 3)) (wi a2 61)) else (none)) else (damperlaw2_Route.j0 k l1 100 1 (rdOf ByteArray.empty y215 (ji4)) (rdOf ByteArray.empty y219 (wi (wrap64 (Int.tdiv a0 3)) 3)) (wi a2 61))) else (none)) else (none)) = some (r1, r2, r3, r4) := by first | (rw [hy219]; with_reducible exact H) | (have H2_ := (Option.bind_some _ _).symm.trans H; rw [hy219]; with_reducible exact H2_) | (have H2_ := (Option.bind_some _ _).symm.trans H; with_reducible exact H2_) | with_reducible exact H | (rw [hy219]; exact H) | exact H
  have Ny219 := Aside0.mk hy219
  clear hy219
  obtain ⟨ji7, hji7⟩ : ∃ j_ : Int, (wi (wrap64 (Int.tdiv a0 3)) 3) = j_ := ⟨_, rfl⟩
  replace H : (if 0 ≤ (ji7) then (if (ji7) < (y219.length : Int) then (if (l1.length : Int) > 0 then (if 0 < (l1.length : Int) then (damperlaw2_Route.j0 k l1 100 (wrap64 (1 + (wi (rd l1 0) 6))) (rdOf ByteArray.empty y215 (ji4)) (rdOf ByteArray.empty y219 (ji7)) (wi a2 61)) else (none)) else (damperlaw2_Route.j0 k l1 100 1 (rdOf ByteArray.empty y215 (ji4)) (rdOf ByteArray.empty y219 (ji7)) (wi a2 61))) else (none)) else (none)) = some (r1, r2, r3, r4) := by first | (rw [hji7] at H; exact H) | (simp only [hji7] at H ⊢; exact H)
  by_cases c8 : 0 ≤ (ji7)
  rotate_left
  · rw [if_neg c8] at H
    exact absurd H (by simp)
  rw [if_pos c8] at H
  have c8b0 : decide (0 ≤ (ji7)) = true := decide_eq_true c8
  clear c8
  by_cases c9 : (ji7) < (y219.length : Int)
  rotate_left
  · rw [if_neg c9] at H
    exact absurd H (by simp)
  rw [if_pos c9] at H
  have c9b0 : decide ((ji7) < (y219.length : Int)) = true := decide_eq_true c9
  clear c9
  obtain ⟨ji10, hji10⟩ : ∃ j_ : Int, (wi a2 61) = j_ := ⟨_, rfl⟩
  replace H : (if (l1.length : Int) > 0 then (if 0 < (l1.length : Int) then (damperlaw2_Route.j0 k l1 100 (wrap64 (1 + (wi (rd l1 0) 6))) (rdOf ByteArray.empty y215 (ji4)) (rdOf ByteArray.empty y219 (ji7)) ji10) else (none)) else (damperlaw2_Route.j0 k l1 100 1 (rdOf ByteArray.empty y215 (ji4)) (rdOf ByteArray.empty y219 (ji7)) ji10)) = some (r1, r2, r3, r4) := by first | (rw [hji10] at H; exact H) | (simp only [hji10] at H ⊢; exact H)
  have HC11 := Aside0.mk H
  clear H
  go_enter Tryd.func18, Tryd.ntmps18
  try go_wp2_with (first | (go_at_call 15; refine (damperlaw2_within.keep _ _ rfl (by first | decide | assumption | exact wi_ne (by assumption) | exact wi_ne' (by assumption) | omega) _).mono ?_; rintro e w' ⟨rfl, rfl⟩) | ((with_reducible refine gate_dst (N := 6) rfl ?_); refine box_event ?hg (N := 6) ?hd (cs := #[.string (⟨#[]⟩ : ByteArray), .string (⟨#[]⟩ : ByteArray), .slice none 0 0, .int .i64 0]) (t := 35) ?hr ?_; (case hd => rfl); (case hg => rfl); (case hr => first | (go_simp; done) | (go_simp; rfl)); intro gb214 hg w12 hbox hb; have n0_ := Aside0.mk (below_step (by repeat (first | (with_reducible first | exact HB.out | apply below_alloc | apply pw_below_drewN | apply below_drew1) | exact HB.out)) hb); have n1_ := Aside0.mk (hbox); have n2_ := Aside0.mk ((by rw [hg]; exact (below_size (by repeat (first | (with_reducible first | exact HB.out | apply below_alloc | apply pw_below_drewN | apply below_drew1) | exact HB.out))) : w.heap.size ≤ gb214)); have n3_ := Aside0.mk ((by rw [hg]; exact (below_size (by repeat (first | (with_reducible first | exact HB.out | apply below_alloc | apply pw_below_drewN | apply below_drew1) | exact HB.out))) : w.heap.size ≤ gb214)); clear HB; have HB := n0_; have BK214 := n1_; have GW214 := n2_; have GE214 := n3_; clear n0_ n1_ n2_ n3_; clear hb hbox hg))
  have pi218 : (0 ≤ ((ji4) : Int)) = True := eq_true (of_decide_eq_true (by first | (with_reducible assumption) | assumption))
  have qi218 : ((ji4) < (y215.length : Int)) = True := eq_true (of_decide_eq_true (by first | (with_reducible assumption) | assumption))
  have pi222 : (0 ≤ ((ji7) : Int)) = True := eq_true (of_decide_eq_true (by first | (with_reducible assumption) | assumption))
  have qi222 : ((ji7) < (y219.length : Int)) = True := eq_true (of_decide_eq_true (by first | (with_reducible assumption) | assumption))
  replace BK214 := Aside0.mk (blk_drew BK214.out)
  replace HB := Aside0.mk (below_drew1 HB.out)
  refine start_ (n := 16) (S := fun w' => True) (ds := []) #[false, false, false, false, false, false, false, false, false, false, false, false, false, false, false, false] (by kernel_rfl) rfl rfl trivial (fun hHeld => ?_); refine with_tabW damperlaw2_Route.tab1 damperlaw2_Route.bits1 (fun HT_ HW_ => ?_)
  generalize w12.drew = w13 at BK214 HB hHeld ⊢
  refine pure_ (i := 1) (N := some 14) (v := ?_) (a' := ?_) #[false, true, false, false, false, false, false, false, false, false, false, false, false, false, false, false] rfl rfl (any_of HT_.out (by kernel_rfl)) (fun _ _ _ h => h) (Or.inl ⟨by rfl, ?_⟩) ?_ ?_
  rotate_left
  · intro w'
    go_simp
    with_reducible rfl
  rotate_left
  · simp only [Act.put, List.setIfInBounds_toArray, List.set_cons_zero, List.set_cons_succ, i64_w, i32_w]
    rfl
  refine callp_ (i := 2) (N := some 15) (a' := ?a3_) #[false, true, true, false, false, false, false, false, false, false, false, false, false, false, false, false] rfl rfl (by kernel_rfl) (fun _ _ _ h => h) (by rfl) Tryd.func15 (by kernel_rfl) rfl rfl (by (try simp only [List.map_toArray, List.map_cons, List.map_nil]); rfl) (damperlaw2_within.same _ _ (r := ?jj3_) ?hj3_ (by first | decide | assumption | exact wi_ne (by assumption) | exact wi_ne' (by assumption) | omega)) ?ha3_ ?h3_
  (case hj3_ => (try simp only [i64_w, i32_w]); first | assumption | (go_simp; rfl))
  (case ha3_ => simp only [Act.put, List.setIfInBounds_toArray, List.set_cons_zero, List.set_cons_succ, i64_w, i32_w]; rfl)
  refine pure_ (i := 6) (N := some 19) (v := ?_) (a' := ?_) #[false, true, true, false, false, false, true, false, false, false, false, false, false, false, false, false] rfl rfl (any_of HT_.out (by kernel_rfl)) (fun _ _ _ h => h) (Or.inl ⟨by rfl, ?_⟩) ?_ ?_
  rotate_left
  · intro w'
    go_simp
    with_reducible rfl
  rotate_left
  · simp only [Act.put, List.setIfInBounds_toArray, List.set_cons_zero, List.set_cons_succ, i64_w, i32_w]
    rfl
  refine pure_ (i := 7) (N := some 20) (v := ?_) (a' := ?_) #[false, true, true, false, false, false, true, true, false, false, false, false, false, false, false, false] rfl rfl (any_of HT_.out (by kernel_rfl)) (fun _ _ _ h => h) (Or.inl ⟨by rfl, ?_⟩) ?_ ?_
  rotate_left
  · intro w'
    go_simp
    with_reducible rfl
  rotate_left
  · simp only [Act.put, List.setIfInBounds_toArray, List.set_cons_zero, List.set_cons_succ, i64_w, i32_w]
    rfl
  refine callp_ (i := 8) (N := some 21) (a' := ?a4_) #[false, true, true, false, false, false, true, true, true, false, false, false, false, false, false, false] rfl rfl (by kernel_rfl) (fun _ _ _ h => h) (by rfl) Tryd.func15 (by kernel_rfl) rfl rfl (by (try simp only [List.map_toArray, List.map_cons, List.map_nil]); rfl) (damperlaw2_within.same _ _ (r := ?jj4_) ?hj4_ (by first | decide | assumption | exact wi_ne (by assumption) | exact wi_ne' (by assumption) | omega)) ?ha4_ ?h4_
  (case hj4_ => (try simp only [i64_w, i32_w]); first | assumption | (go_simp; rfl))
  (case ha4_ => simp only [Act.put, List.setIfInBounds_toArray, List.set_cons_zero, List.set_cons_succ, i64_w, i32_w]; rfl)
  refine pure_ (i := 11) (N := some 24) (v := ?_) (a' := ?_) #[false, true, true, false, false, false, true, true, true, false, false, true, false, false, false, false] rfl rfl (any_of HT_.out (by kernel_rfl)) (fun _ _ _ h => h) (Or.inl ⟨by rfl, ?_⟩) ?_ ?_
  rotate_left
  · intro w'
    go_simp
    with_reducible rfl
  rotate_left
  · simp only [Act.put, List.setIfInBounds_toArray, List.set_cons_zero, List.set_cons_succ, i64_w, i32_w]
    rfl
  refine callp_ (i := 12) (N := some 25) (a' := ?a5_) #[false, true, true, false, false, false, true, true, true, false, false, true, true, false, false, false] rfl rfl (by kernel_rfl) (fun _ _ _ h => h) (by rfl) Tryd.func15 (by kernel_rfl) rfl rfl (by (try simp only [List.map_toArray, List.map_cons, List.map_nil]); rfl) (damperlaw2_within.same _ _ (r := ?jj5_) ?hj5_ (by first | decide | assumption | exact wi_ne (by assumption) | exact wi_ne' (by assumption) | omega)) ?ha5_ ?h5_
  (case hj5_ => (try simp only [i64_w, i32_w]); first | assumption | (go_simp; rfl))
  (case ha5_ => simp only [Act.put, List.setIfInBounds_toArray, List.set_cons_zero, List.set_cons_succ, i64_w, i32_w]; rfl)
  refine join_ (σ := Value × Addr × Value × Addr × Nat) 1 #[true, true, true, true, true, true, true, true, true, true, true, true, true, true, true, false] (fun s_ => [(13, s_.1), (17, .string (rdOf ByteArray.empty y215 (ji4))), (18, s_.2.2.1), (23, .string (rdOf ByteArray.empty y219 (ji7))), (7, .pointer (some ⟨s_.2.2.2.2, 0, none⟩)), (16, .pointer (some (s_.2.1.add ((ji4)).toNat))), (22, .pointer (some (s_.2.2.2.1.add ((ji7)).toNat))), (26, .agg #[.string (rdOf ByteArray.empty y215 (ji4)), .string (rdOf ByteArray.empty y219 (ji7)), .slice none 0 0, .int .i64 ji10])]) (fun s_ w' => (Kd.R Kd.string 9 w' w.heap.size (fun k_ => some k_ ≠ (s_.2.2.1 : Value).ownBlock) s_.1 y215) ∧ (Kd.R Kd.string 9 w' w.heap.size (fun k_ => some k_ ≠ (s_.1 : Value).ownBlock) s_.2.2.1 y219) ∧ (∃ c_, (s_.1 : Value) = .slice (some s_.2.1) y215.length c_) ∧ (∃ c_, (s_.2.2.1 : Value) = .slice (some s_.2.2.2.1) y219.length c_) ∧ (w'.heap[gb214]? = some (.cells #[.string (⟨#[]⟩ : ByteArray), .string (⟨#[]⟩ : ByteArray), .slice none 0 0, .int .i64 0] 35 (0, 0))) ∧ (w'.heap[s_.2.2.2.2]? = some (.cells #[.string (⟨#[]⟩ : ByteArray), .string (⟨#[]⟩ : ByteArray), .slice none 0 0, .int .i64 0] 35 (0, 0))) ∧ (w.heap.size ≤ s_.2.2.2.2) ∧ (w.heap.size ≤ s_.2.2.2.2) ∧ (gb214 ≠ s_.2.2.2.2) ∧ (s_.2.2.2.2 ≠ gb214) ∧ (Below w.heap.size w w')) ?_ ?_
  · rintro ⟨v216, adz_v216, v220, adz_v220, gb223⟩ w21 ⟨h0_, h1_, h2_, h3_, h4_, h5_, h6_, h7_, h8_, h9_, h10_⟩
    have HO217 : Aside0 (Kd.R Kd.string 9 w21 w.heap.size (fun k_ => some k_ ≠ (v220 : Value).ownBlock) v216 y215) := ⟨h0_⟩
    have HO221 : Aside0 (Kd.R Kd.string 9 w21 w.heap.size (fun k_ => some k_ ≠ (v216 : Value).ownBlock) v220 y219) := ⟨h1_⟩
    have HA_HO217 : Aside0 (∃ c_, (v216 : Value) = .slice (some adz_v216) y215.length c_) := ⟨h2_⟩
    have HA_HO221 : Aside0 (∃ c_, (v220 : Value) = .slice (some adz_v220) y219.length c_) := ⟨h3_⟩
    have BK223 : Aside0 (w21.heap[gb223]? = some (.cells #[.string (⟨#[]⟩ : ByteArray), .string (⟨#[]⟩ : ByteArray), .slice none 0 0, .int .i64 0] 35 (0, 0))) := ⟨h5_⟩
    have GW223 : Aside0 (w.heap.size ≤ gb223) := ⟨h6_⟩
    have GE223 : Aside0 (w.heap.size ≤ gb223) := ⟨h7_⟩
    have NB214_223 : Aside0 (gb214 ≠ gb223) := ⟨h8_⟩
    have NB223_214 : Aside0 (gb223 ≠ gb214) := ⟨h9_⟩
    replace BK214 := Aside0.mk h4_
    replace HB : Aside0 (Below w.heap.size w w21) := ⟨h10_⟩
    clear h0_ h1_ h2_ h3_ h4_ h5_ h6_ h7_ h8_ h9_ h10_
    have hHeld := trivial
    obtain ⟨co22, eo22⟩ := HA_HO217.out
    clear HA_HO217
    subst eo22
    obtain ⟨co23, eo23⟩ := HA_HO221.out
    clear HA_HO221
    subst eo23
    refine norm_ (a' := ?_) ?_ ?_
    rotate_left
    · simp only [putAll, Act.put, List.setIfInBounds_toArray, List.set_cons_zero, List.set_cons_succ]
      rfl
    refine one_ (i := 15) (N := none) #[true, true, true, true, true, true, true, true, true, true, true, true, true, true, true, true] rfl rfl (one_of HT_.out (by kernel_rfl)) (by decide) (fun K hK => ?_)
    have hs24 : w21.cell? ⟨gb223, 0, none⟩ = some (.string (⟨#[]⟩ : ByteArray)) := bc BK223 0
    have hfs24 := blk_frozen BK223.out 0
    have hns24_0 := NB214_223.out
    have hms24_0 := NB223_214.out
    have hs25 : w21.cell? ⟨gb223, 1, none⟩ = some (.string (⟨#[]⟩ : ByteArray)) := bc BK223 1
    have hfs25 := blk_frozen BK223.out 1
    have hs26 : w21.cell? ⟨gb223, 2, none⟩ = some (.slice none 0 0) := bc BK223 2
    have hfs26 := blk_frozen BK223.out 2
    have hs27 : w21.cell? ⟨gb223, 3, none⟩ = some (.int .i64 0) := bc BK223 3
    have hfs27 := blk_frozen BK223.out 3
    with_reducible_and_instances refine skip_ (w1 := ?_) ?hw_ ?hN_ ?_ ?_
    (case hw_ => rfl)
    (case hN_ => rfl)
    rotate_left
    · go_simp
      rfl
    refine hK.out _ _ trivial (fun hHeld => ?_)
    clear hK K
    refine done_ (done_of HT_.out (by kernel_rfl)) ?_
    go_upto_if 29 with (first | (go_at_call 15; refine (damperlaw2_within.keep _ _ rfl (by first | decide | assumption | exact wi_ne (by assumption) | exact wi_ne' (by assumption) | omega) _).mono ?_; rintro e w' ⟨rfl, rfl⟩))
    go_cut [9] (fun v9 wc => ∃ (kq : Nat) (x9_10 : Int), v9 = .int .i64 x9_10 ∧ Aside0 (damperlaw2_Route.j0 kq l1 100 x9_10 (rdOf ByteArray.empty y215 (ji4)) (rdOf ByteArray.empty y219 (ji7)) ji10 = some (r1, r2, r3, r4)) ∧ Aside0 (kq ≤ k) ∧ Aside0 (wc.heap[gb214]? = some (.cells #[.string (⟨#[]⟩ : ByteArray), .string (⟨#[]⟩ : ByteArray), (.slice none 0 0), .int .i64 0] 35 (0, 0))) ∧ Aside0 (wc.heap[gb223]? = some (.cells #[.string (rdOf ByteArray.empty y215 (ji4)), .string (rdOf ByteArray.empty y219 (ji7)), (.slice none 0 0), .int .i64 ji10] 35 (0, 0))) ∧ Aside0 (Below w.heap.size w wc))
    case first =>
      have H := HC11.out
      clear HC11
      by_cases c28 : (l1.length : Int) > 0
      · rw [if_pos c28] at H
        have c28b0 : decide (0 < (l1.length : Int)) = true := decide_eq_true c28
        have c28b1 : decide (0 < l1.length) = true := decide_eq_true (by omega)
        clear c28
        (first | rw [c28b0] | (simp only [i64_w, i32_w]; rw [c28b0]) | rw [c28b1] | skip)
        by_cases c29 : 0 < (l1.length : Int)
        rotate_left
        · rw [if_neg c29] at H
          exact absurd H (by simp)
        rw [if_pos c29] at H
        have c29b0 : decide (0 < (l1.length : Int)) = true := decide_eq_true c29
        have c29b1 : decide (0 < l1.length) = true := decide_eq_true (by omega)
        clear c29
        obtain ⟨ji30, hji30⟩ : ∃ j_ : Int, (wi (rd l1 0) 6) = j_ := ⟨_, rfl⟩
        replace H : (damperlaw2_Route.j0 k l1 100 (wrap64 (1 + (ji30))) (rdOf ByteArray.empty y215 (ji4)) (rdOf ByteArray.empty y219 (ji7)) ji10) = some (r1, r2, r3, r4) := by first | (rw [hji30] at H; exact H) | (simp only [hji30] at H ⊢; exact H)
        have H' := Aside0.mk H
        clear H
        have p224 : 0 ≤ (0 : Int) := (by omega)
        have q224 : 0 < (l1.length : Int) := of_decide_eq_true (by first | (with_reducible assumption) | assumption)
        obtain ⟨ad224, e224, hx224_0⟩ := Kd.at_int HR1.out 0 p224 q224
        cases e224
        have qi224 : (0 < l1.length) = True := eq_true (by omega)
        (try rw [show ((0 : Int)).toNat = 0 from rfl] at hx224_0)
        (try rw [Addr.add_zero'] at hx224_0)
        have hn224_0 : ad224.block ≠ gb223 := Nat.ne_of_lt (Nat.lt_of_lt_of_le (by have := World.block_lt_of_cell? _ _ hx224_0; first | rwa [add_block] at this | exact this) GW223.out)
        have hn224_1 : ad224.block ≠ gb223 := Nat.ne_of_lt (Nat.lt_of_lt_of_le (by have := World.block_lt_of_cell? _ _ hx224_0; first | rwa [add_block] at this | exact this) GW223.out)
        have hn224_2 : ad224.block ≠ gb223 := Nat.ne_of_lt (Nat.lt_of_lt_of_le (by have := World.block_lt_of_cell? _ _ hx224_0; first | rwa [add_block] at this | exact this) GW223.out)
        have hn224_3 : ad224.block ≠ gb223 := Nat.ne_of_lt (Nat.lt_of_lt_of_le (by have := World.block_lt_of_cell? _ _ hx224_0; first | rwa [add_block] at this | exact this) GW223.out)
        replace hx224_0 := (HB.out.cell (World.block_lt_of_cell? w _ hx224_0)).trans hx224_0
        replace hx224_0 := (cell_far (p := ⟨gb223, 0, none⟩) (by first | (rw [add_block]; exact hn224_0) | (show (Addr.add _ _).block ≠ _; rw [add_block]; exact hn224_0) | exact hn224_0) (.string (rdOf ByteArray.empty y215 (ji4)))).trans hx224_0
        replace hx224_0 := (cell_far (p := ⟨gb223, 1, none⟩) (by first | (rw [add_block]; exact hn224_1) | (show (Addr.add _ _).block ≠ _; rw [add_block]; exact hn224_1) | exact hn224_1) (.string (rdOf ByteArray.empty y219 (ji7)))).trans hx224_0
        replace hx224_0 := (cell_far (p := ⟨gb223, 2, none⟩) (by first | (rw [add_block]; exact hn224_2) | (show (Addr.add _ _).block ≠ _; rw [add_block]; exact hn224_2) | exact hn224_2) (.slice none 0 0)).trans hx224_0
        replace hx224_0 := (cell_far (p := ⟨gb223, 3, none⟩) (by first | (rw [add_block]; exact hn224_3) | (show (Addr.add _ _).block ≠ _; rw [add_block]; exact hn224_3) | exact hn224_3) (.int .i64 ji10)).trans hx224_0
        clear hn224_0
        clear hn224_1
        clear hn224_2
        clear hn224_3
        replace p224 := eq_true p224
        replace q224 := eq_true q224
        go_wp2_with (first | (go_at_call 15; refine (damperlaw2_within.keep _ _ rfl (by first | decide | assumption | exact wi_ne (by assumption) | exact wi_ne' (by assumption) | omega) _).mono ?_; rintro e w' ⟨rfl, rfl⟩))
        go_meet
        case rel => exact ⟨_, (wrap64 (1 + (ji30))), (by first | rfl | (simp; done) | (simp only [← hji30] <;> (first | rfl | simp)) | (simp [*]; done)), H', ⟨by first | omega | exact Nat.le_refl _⟩, ⟨by (repeat ((with_reducible repeat (first | refine blk_drewN ?_ _ | refine blk_drew ?_ | refine blk_alloc ?_ _)); with_reducible refine blk_far ?_ NB214_223.out _)); (with_reducible repeat (first | refine blk_drewN ?_ _ | refine blk_drew ?_ | refine blk_alloc ?_ _)); exact BK214.out⟩, ⟨by (with_reducible repeat (first | refine blk_drewN ?_ _ | refine blk_drew ?_ | refine blk_alloc ?_ _)); refine blk_put (cs := #[.string (rdOf ByteArray.empty y215 (ji4)), .string (rdOf ByteArray.empty y219 (ji7)), .slice none 0 0, .int .i64 0]) ?_ 3 _ rfl; (with_reducible repeat (first | refine blk_drewN ?_ _ | refine blk_drew ?_ | refine blk_alloc ?_ _)); refine blk_put (cs := #[.string (rdOf ByteArray.empty y215 (ji4)), .string (rdOf ByteArray.empty y219 (ji7)), .slice none 0 0, .int .i64 0]) ?_ 2 _ rfl; (with_reducible repeat (first | refine blk_drewN ?_ _ | refine blk_drew ?_ | refine blk_alloc ?_ _)); refine blk_put (cs := #[.string (rdOf ByteArray.empty y215 (ji4)), .string (⟨#[]⟩ : ByteArray), .slice none 0 0, .int .i64 0]) ?_ 1 _ rfl; (with_reducible repeat (first | refine blk_drewN ?_ _ | refine blk_drew ?_ | refine blk_alloc ?_ _)); refine blk_put (cs := #[.string (⟨#[]⟩ : ByteArray), .string (⟨#[]⟩ : ByteArray), .slice none 0 0, .int .i64 0]) ?_ 0 _ rfl; (with_reducible repeat (first | refine blk_drewN ?_ _ | refine blk_drew ?_ | refine blk_alloc ?_ _)); exact BK223.out⟩, ⟨by repeat (first | (with_reducible first | exact HB.out | apply below_alloc | apply pw_below_drewN | apply below_drew1 | refine below_set ?_ GE214.out | refine below_set ?_ GE223.out) | exact HB.out)⟩⟩
      · rw [if_neg c28] at H
        have c28b0 : decide (0 < (l1.length : Int)) = false := decide_eq_false c28
        have c28b1 : decide (0 < l1.length) = false := decide_eq_false (by omega)
        clear c28
        (first | rw [c28b0] | (simp only [i64_w, i32_w]; rw [c28b0]) | rw [c28b1] | skip)
        have H' := Aside0.mk H
        clear H
        go_wp2_with (first | (go_at_call 15; refine (damperlaw2_within.keep _ _ rfl (by first | decide | assumption | exact wi_ne (by assumption) | exact wi_ne' (by assumption) | omega) _).mono ?_; rintro e w' ⟨rfl, rfl⟩))
        go_meet
        case rel => exact ⟨_, (1), (by first | rfl | (simp; done) | (simp [*]; done)), H', ⟨by first | omega | exact Nat.le_refl _⟩, ⟨by (repeat ((with_reducible repeat (first | refine blk_drewN ?_ _ | refine blk_drew ?_ | refine blk_alloc ?_ _)); with_reducible refine blk_far ?_ NB214_223.out _)); (with_reducible repeat (first | refine blk_drewN ?_ _ | refine blk_drew ?_ | refine blk_alloc ?_ _)); exact BK214.out⟩, ⟨by (with_reducible repeat (first | refine blk_drewN ?_ _ | refine blk_drew ?_ | refine blk_alloc ?_ _)); refine blk_put (cs := #[.string (rdOf ByteArray.empty y215 (ji4)), .string (rdOf ByteArray.empty y219 (ji7)), .slice none 0 0, .int .i64 0]) ?_ 3 _ rfl; (with_reducible repeat (first | refine blk_drewN ?_ _ | refine blk_drew ?_ | refine blk_alloc ?_ _)); refine blk_put (cs := #[.string (rdOf ByteArray.empty y215 (ji4)), .string (rdOf ByteArray.empty y219 (ji7)), .slice none 0 0, .int .i64 0]) ?_ 2 _ rfl; (with_reducible repeat (first | refine blk_drewN ?_ _ | refine blk_drew ?_ | refine blk_alloc ?_ _)); refine blk_put (cs := #[.string (rdOf ByteArray.empty y215 (ji4)), .string (⟨#[]⟩ : ByteArray), .slice none 0 0, .int .i64 0]) ?_ 1 _ rfl; (with_reducible repeat (first | refine blk_drewN ?_ _ | refine blk_drew ?_ | refine blk_alloc ?_ _)); refine blk_put (cs := #[.string (⟨#[]⟩ : ByteArray), .string (⟨#[]⟩ : ByteArray), .slice none 0 0, .int .i64 0]) ?_ 0 _ rfl; (with_reducible repeat (first | refine blk_drewN ?_ _ | refine blk_drew ?_ | refine blk_alloc ?_ _)); exact BK223.out⟩, ⟨by repeat (first | (with_reducible first | exact HB.out | apply below_alloc | apply pw_below_drewN | apply below_drew1 | refine below_set ?_ GE214.out | refine below_set ?_ GE223.out) | exact HB.out)⟩⟩
    case rest =>
      clear HC11
      try clear c2
      try clear p2
      try clear q2
      try clear hx2
      try clear qi2
      try clear p6
      try clear p21
      try clear q21
      try clear hx21
      try clear p22
      try clear q22
      try clear hx22
      try clear qi22
      try clear c28
      try clear c28b0
      try clear c28b1
      try clear c29
      try clear c29b0
      try clear c29b1
      try clear hx218_0
      try clear hx222_0
      try clear hx224_0
      try clear p218
      try clear p222
      try clear p224
      try clear q218
      try clear q222
      try clear q224
      obtain ⟨kq, x9_10, rfl, HA, HJ10, BK214, BK223, HB⟩ := hcut
      cases kq with
      | zero => exact absurd HA.out (by simp [damperlaw2_Route.j0])
      | succ kj10 =>
        have H := HA.out
        clear HA
        simp only [damperlaw2_Route.j0] at H
        have H' := Aside0.mk H
        clear H
        go_wp2_with (first | (go_at_call 15; refine (damperlaw2_within.keep _ _ rfl (by first | decide | assumption | exact wi_ne (by assumption) | exact wi_ne' (by assumption) | omega) _).mono ?_; rintro e w' ⟨rfl, rfl⟩))
        go_loopg [8, 10] kj10 (fun kq v8 v10 w' => ∃ (x8_2 : Int) (x10_2 : Int) (x224002_2 : List (S41)) (u224002 : Value), v8 = .int .i64 x8_2 ∧ v10 = .int .i64 x10_2 ∧ Aside0 (damperlaw2_Route.l0 kq l1 x8_2 x9_10 x10_2 (rdOf ByteArray.empty y215 (ji4)) (rdOf ByteArray.empty y219 (ji7)) x224002_2 ji10 = some (r1, r2, r3, r4)) ∧ Aside0 (kq ≤ kj10) ∧ Aside0 (Kd.R k41 41 w' w.heap.size (fun _ => True) u224002 x224002_2) ∧ Aside0 (w'.heap[gb214]? = some (.cells #[.string (⟨#[]⟩ : ByteArray), .string (⟨#[]⟩ : ByteArray), (.slice none 0 0), .int .i64 0] 35 (0, 0))) ∧ Aside0 (w'.heap[gb223]? = some (.cells #[.string (rdOf ByteArray.empty y215 (ji4)), .string (rdOf ByteArray.empty y219 (ji7)), u224002, .int .i64 ji10] 35 (0, 0))) ∧ Aside0 (Below w.heap.size w w'))
        case atStart => exact ⟨(100), (0), (([] : List (S41))), (.slice none 0 0), (by first | rfl | (simp; done) | (simp [*]; done)), (by first | rfl | (simp; done) | (simp [*]; done)), H', ⟨Nat.le_refl _⟩, ⟨by first | exact Kd.R_nil _ _ _ _ _ | exact Kd.N_nil _ _ _ _ _ | exact Kd.V_nil _ _ _ _ _ | exact Kd.Q_nil _ _ _ _ _ | exact Kd.S_nil _ _ _ _ _⟩, ⟨by (with_reducible repeat (first | refine blk_drewN ?_ _ | refine blk_drew ?_ | refine blk_alloc ?_ _)); exact BK214.out⟩, ⟨by (with_reducible repeat (first | refine blk_drewN ?_ _ | refine blk_drew ?_ | refine blk_alloc ?_ _)); exact BK223.out⟩, ⟨by repeat (first | (with_reducible first | exact HB.out | apply below_alloc | apply pw_below_drewN | apply below_drew1 | refine below_set ?_ GE214.out | refine below_set ?_ GE223.out) | exact HB.out)⟩⟩
        case round =>
          clear H'
          try clear c2
          try clear p2
          try clear q2
          try clear hx2
          try clear qi2
          try clear p6
          try clear p21
          try clear q21
          try clear hx21
          try clear p22
          try clear q22
          try clear hx22
          try clear qi22
          try clear c28
          try clear c28b0
          try clear c28b1
          try clear c29
          try clear c29b0
          try clear c29b1
          try clear hx218_0
          try clear hx222_0
          try clear hx224_0
          try clear p2
          try clear p21
          try clear p218
          try clear p22
          try clear p222
          try clear p224
          try clear p6
          try clear q2
          try clear q21
          try clear q218
          try clear q22
          try clear q222
          try clear q224
          obtain ⟨x8_2, x10_2, x224002_2, u224002, rfl, rfl, HA, HK2, HO_224002, BK214, BK223, HB⟩ := hrel
          cases gk with
          | zero => exact absurd HA.out (by simp [damperlaw2_Route.l0])
          | succ k2 =>
            have H := HA.out
            clear HA
            simp only [damperlaw2_Route.l0] at H
            by_cases c31 : x10_2 < x9_10
            · rw [if_pos c31] at H
              have c31b0 : decide (x10_2 < x9_10) = true := decide_eq_true c31
              clear c31
              have HC32 := Aside0.mk H
              clear H
              go_upto_if 45 with (first | (go_at_call 15; refine (damperlaw2_within.keep _ _ rfl (by first | decide | assumption | exact wi_ne (by assumption) | exact wi_ne' (by assumption) | omega) _).mono ?_; rintro e w' ⟨rfl, rfl⟩))
              go_cut [11] (fun v11 wc => ∃ (kq : Nat) (x11_31 : Int), v11 = .int .i64 x11_31 ∧ Aside0 (damperlaw2_Route.j2 kq l1 x8_2 x9_10 x10_2 x11_31 (rdOf ByteArray.empty y215 (ji4)) (rdOf ByteArray.empty y219 (ji7)) x224002_2 ji10 = some (r1, r2, r3, r4)) ∧ Aside0 (kq ≤ k2) ∧ Aside0 (Kd.R k41 41 wc w.heap.size (fun _ => True) u224002 x224002_2) ∧ Aside0 (wc.heap[gb214]? = some (.cells #[.string (⟨#[]⟩ : ByteArray), .string (⟨#[]⟩ : ByteArray), (.slice none 0 0), .int .i64 0] 35 (0, 0))) ∧ Aside0 (wc.heap[gb223]? = some (.cells #[.string (rdOf ByteArray.empty y215 (ji4)), .string (rdOf ByteArray.empty y219 (ji7)), u224002, .int .i64 ji10] 35 (0, 0))) ∧ Aside0 (Below w.heap.size w wc))
              case first =>
                have H := HC32.out
                clear HC32
                by_cases c33 : (wrap64 (x10_2 + 1)) < (l1.length : Int)
                · rw [if_pos c33] at H
                  have c33b0 : decide ((wrap64 (x10_2 + 1)) < (l1.length : Int)) = true := decide_eq_true c33
                  clear c33
                  (first | rw [c33b0] | (simp only [i64_w, i32_w]; rw [c33b0]) | rw [c33b1] | skip)
                  obtain ⟨ji34, hji34⟩ : ∃ j_ : Int, (wrap64 (x10_2 + 1)) = j_ := ⟨_, rfl⟩
                  replace H : (if 0 ≤ (ji34) then (damperlaw2_Route.j2 k2 l1 x8_2 x9_10 x10_2 (rd l1 (ji34)) (rdOf ByteArray.empty y215 (ji4)) (rdOf ByteArray.empty y219 (ji7)) x224002_2 ji10) else (none)) = some (r1, r2, r3, r4) := by first | (rw [hji34] at H; exact H) | (simp only [hji34] at H ⊢; exact H)
                  (try rw [hji34] at c33b0)
                  have hji34w : (IntKind.i64.wrap (x10_2 + 1)) = ji34 := (i64_w _).trans hji34
                  by_cases c35 : 0 ≤ (ji34)
                  rotate_left
                  · rw [if_neg c35] at H
                    exact absurd H (by simp)
                  rw [if_pos c35] at H
                  have c35b0 : decide (0 ≤ (ji34)) = true := decide_eq_true c35
                  clear c35
                  have H' := Aside0.mk H
                  clear H
                  have p225 : 0 ≤ ((ji34) : Int) := of_decide_eq_true (by first | (with_reducible assumption) | assumption)
                  have q225 : (ji34) < (l1.length : Int) := of_decide_eq_true (by first | (with_reducible assumption) | assumption)
                  obtain ⟨ad225, e225, hx225_0⟩ := Kd.at_int HR1.out (ji34) p225 q225
                  cases e225
                  replace hx225_0 := (HB.out.cell (World.block_lt_of_cell? w _ hx225_0)).trans hx225_0
                  replace p225 := eq_true p225
                  replace q225 := eq_true q225
                  go_wp2_with (first | (go_at_call 15; refine (damperlaw2_within.keep _ _ rfl (by first | decide | assumption | exact wi_ne (by assumption) | exact wi_ne' (by assumption) | omega) _).mono ?_; rintro e w' ⟨rfl, rfl⟩))
                  go_meet
                  case rel => exact ⟨_, (rd l1 (ji34)), (by first | rfl | (simp; done) | (simp only [← hji34] <;> (first | rfl | simp)) | (simp [*]; done)), H', ⟨by have := HJ10.out; have := HK2.out; first | omega | exact Nat.le_refl _⟩, ⟨by (with_reducible repeat (first | apply Kd.R_alloc | apply Kd.R_drewN | apply Kd.R_drew)); exact HO_224002.out⟩, ⟨by (with_reducible repeat (first | refine blk_drewN ?_ _ | refine blk_drew ?_ | refine blk_alloc ?_ _)); exact BK214.out⟩, ⟨by (with_reducible repeat (first | refine blk_drewN ?_ _ | refine blk_drew ?_ | refine blk_alloc ?_ _)); exact BK223.out⟩, ⟨by repeat (first | (with_reducible first | exact HB.out | apply below_alloc | apply pw_below_drewN | apply below_drew1 | refine below_set ?_ GE214.out | refine below_set ?_ GE223.out) | exact HB.out)⟩⟩
                · rw [if_neg c33] at H
                  have c33b0 : decide ((wrap64 (x10_2 + 1)) < (l1.length : Int)) = false := decide_eq_false c33
                  clear c33
                  (first | rw [c33b0] | (simp only [i64_w, i32_w]; rw [c33b0]) | rw [c33b1] | skip)
                  have H' := Aside0.mk H
                  clear H
                  go_wp2_with (first | (go_at_call 15; refine (damperlaw2_within.keep _ _ rfl (by first | decide | assumption | exact wi_ne (by assumption) | exact wi_ne' (by assumption) | omega) _).mono ?_; rintro e w' ⟨rfl, rfl⟩))
                  go_meet
                  case rel => exact ⟨_, (x10_2), (by first | rfl | (simp; done) | (simp [*]; done)), H', ⟨by have := HJ10.out; have := HK2.out; first | omega | exact Nat.le_refl _⟩, ⟨by (with_reducible repeat (first | apply Kd.R_alloc | apply Kd.R_drewN | apply Kd.R_drew)); exact HO_224002.out⟩, ⟨by (with_reducible repeat (first | refine blk_drewN ?_ _ | refine blk_drew ?_ | refine blk_alloc ?_ _)); exact BK214.out⟩, ⟨by (with_reducible repeat (first | refine blk_drewN ?_ _ | refine blk_drew ?_ | refine blk_alloc ?_ _)); exact BK223.out⟩, ⟨by repeat (first | (with_reducible first | exact HB.out | apply below_alloc | apply pw_below_drewN | apply below_drew1 | refine below_set ?_ GE214.out | refine below_set ?_ GE223.out) | exact HB.out)⟩⟩
              case rest =>
                clear HC32
                try clear c2
                try clear p2
                try clear q2
                try clear hx2
                try clear qi2
                try clear c3
                try clear p6
                try clear p21
                try clear q21
                try clear hx21
                try clear p22
                try clear q22
                try clear hx22
                try clear qi22
                try clear c28
                try clear c28b0
                try clear c28b1
                try clear c29
                try clear c29b0
                try clear c29b1
                try clear c31
                try clear c31b0
                try clear c33
                try clear c33b0
                try clear c33b1
                try clear c35
                try clear c35b0
                try clear hx218_0
                try clear hx222_0
                try clear hx224_0
                try clear hx225_0
                try clear p2
                try clear p21
                try clear p218
                try clear p22
                try clear p222
                try clear p224
                try clear p225
                try clear p6
                try clear q2
                try clear q21
                try clear q218
                try clear q22
                try clear q222
                try clear q224
                try clear q225
                obtain ⟨kq, x11_31, rfl, HA, HJ31, HO_224002, BK214, BK223, HB⟩ := hcut
                cases kq with
                | zero => exact absurd HA.out (by simp [damperlaw2_Route.j2])
                | succ kj31 =>
                  have H := HA.out
                  clear HA
                  simp only [damperlaw2_Route.j2] at H
                  by_cases c36 : (wrap64 (x8_2 + 1)) = 0
                  · rw [if_pos c36] at H
                    exact absurd H (by simp)
                  rw [if_neg c36] at H
                  have c36b0 : ((wrap64 (x8_2 + 1)) == 0) = false := beq_eq_false_iff_ne.mpr c36
                  have c36b1 : ((wrap64 (x8_2 + 1)) != 0) = true := bne_iff_ne.mpr c36
                  obtain ⟨ji37, hji37⟩ : ∃ j_ : Int, (wi x11_31 (wrap64 (x8_2 + 1))) = j_ := ⟨_, rfl⟩
                  replace H : (if x10_2 = (wrap64 (x9_10 - 1)) then (damperlaw2_Route.j3 kj31 l1 x8_2 x9_10 x10_2 x11_31 (rdOf ByteArray.empty y215 (ji4)) (rdOf ByteArray.empty y219 (ji7)) x224002_2 ji10 (⟨#[]⟩ : ByteArray) (⟨#[]⟩ : ByteArray) x8_2) else (damperlaw2_Route.j3 kj31 l1 x8_2 x9_10 x10_2 x11_31 (rdOf ByteArray.empty y215 (ji4)) (rdOf ByteArray.empty y219 (ji7)) x224002_2 ji10 (⟨#[]⟩ : ByteArray) (⟨#[]⟩ : ByteArray) ji37)) = some (r1, r2, r3, r4) := by first | (rw [hji37] at H; exact H) | (simp only [hji37] at H ⊢; exact H)
                  have HC38 := Aside0.mk H
                  clear H
                  go_upto_if 59 with (first | (go_at_call 15; refine (damperlaw2_within.keep _ _ rfl (by first | decide | assumption | exact wi_ne (by assumption) | exact wi_ne' (by assumption) | omega) _).mono ?_; rintro e w' ⟨rfl, rfl⟩) | ((with_reducible refine gate_dst (N := 12) rfl ?_); refine box_event ?hg (N := 12) ?hd (cs := #[.string (⟨#[]⟩ : ByteArray), .string (⟨#[]⟩ : ByteArray), .int .i64 0]) (t := 41) ?hr ?_; (case hd => rfl); (case hg => rfl); (case hr => first | (go_simp; done) | (go_simp; rfl)); intro gb226 hg w39 hbox hb; have n0_ := Aside0.mk (Kd.R_below (Kd.R_elderB (by (with_reducible repeat (first | apply Kd.R_alloc | apply Kd.R_drewN | apply Kd.R_drew)); exact HO_224002.out) gb226 (Nat.le_of_eq hg.symm)) hb); have n1_ := Aside0.mk (blk_below (g := gb214) (pk BK214) hb); have n2_ := Aside0.mk (blk_below (g := gb223) (pk BK223) hb); have n3_ := Aside0.mk (below_step (by repeat (first | (with_reducible first | exact HB.out | apply below_alloc | apply pw_below_drewN | apply below_drew1 | refine below_set ?_ GE214.out | refine below_set ?_ GE223.out) | exact HB.out)) hb); have n4_ := Aside0.mk (hbox); have n5_ := Aside0.mk ((by rw [hg]; exact (below_size (by repeat (first | (with_reducible first | exact HB.out | apply below_alloc | apply pw_below_drewN | apply below_drew1 | refine below_set ?_ GE214.out | refine below_set ?_ GE223.out) | exact HB.out))) : w.heap.size ≤ gb226)); have n6_ := Aside0.mk ((by rw [hg]; exact (below_size (by repeat (first | (with_reducible first | exact HB.out | apply below_alloc | apply pw_below_drewN | apply below_drew1 | refine below_set ?_ GE214.out | refine below_set ?_ GE223.out) | exact HB.out))) : w.heap.size ≤ gb226)); have n7_ := Aside0.mk ((ne_lt hg (pk BK214) : gb214 ≠ gb226)); have n8_ := Aside0.mk ((ne_gt hg (pk BK214) : gb226 ≠ gb214)); have n9_ := Aside0.mk ((ne_lt hg (pk BK223) : gb223 ≠ gb226)); have n10_ := Aside0.mk ((ne_gt hg (pk BK223) : gb226 ≠ gb223)); clear HO_224002; clear BK214; clear BK223; clear HB; have HO_224002 := n0_; have BK214 := n1_; have BK223 := n2_; have HB := n3_; have BK226 := n4_; have GW226 := n5_; have GE226 := n6_; have NB214_226 := n7_; have NB226_214 := n8_; have NB223_226 := n9_; have NB226_223 := n10_; clear n0_ n1_ n2_ n3_ n4_ n5_ n6_ n7_ n8_ n9_ n10_; clear hb hbox hg; have hnb40 := NB226_214.out; have hnc40 := NB214_226.out; have hnb41 := NB226_223.out; have hnc41 := NB223_226.out; have hcz42_0 : w39.cell? ⟨gb226, 0, none⟩ = some (.string (⟨#[]⟩ : ByteArray)) := bc BK226 0; have hcz42_1 : w39.cell? ⟨gb226, 1, none⟩ = some (.string (⟨#[]⟩ : ByteArray)) := bc BK226 1; have hcz42_2 : w39.cell? ⟨gb226, 2, none⟩ = some (.int .i64 0) := bc BK226 2; have hfz42_0 := blk_frozen BK226.out 0; have hfz42_1 := blk_frozen BK226.out 1; have hfz42_2 := blk_frozen BK226.out 2))
                  (try simp only [Act.put, List.setIfInBounds_toArray, List.set_cons_zero, List.set_cons_succ])
                  go_cut [] (fun wc => ∃ (kq : Nat) (x227002_37 : Int), Aside0 (damperlaw2_Route.j3 kq l1 x8_2 x9_10 x10_2 x11_31 (rdOf ByteArray.empty y215 (ji4)) (rdOf ByteArray.empty y219 (ji7)) x224002_2 ji10 (⟨#[]⟩ : ByteArray) (⟨#[]⟩ : ByteArray) x227002_37 = some (r1, r2, r3, r4)) ∧ Aside0 (kq ≤ kj31) ∧ Aside0 (Kd.R k41 41 wc w.heap.size (fun k_ => k_ ≠ gb226) u224002 x224002_2) ∧ Aside0 (wc.heap[gb214]? = some (.cells #[.string (⟨#[]⟩ : ByteArray), .string (⟨#[]⟩ : ByteArray), (.slice none 0 0), .int .i64 0] 35 (0, 0))) ∧ Aside0 (wc.heap[gb223]? = some (.cells #[.string (rdOf ByteArray.empty y215 (ji4)), .string (rdOf ByteArray.empty y219 (ji7)), u224002, .int .i64 ji10] 35 (0, 0))) ∧ Aside0 (wc.heap[gb226]? = some (.cells #[.string (⟨#[]⟩ : ByteArray), .string (⟨#[]⟩ : ByteArray), .int .i64 x227002_37] 41 (0, 0))) ∧ Aside0 (Below w.heap.size w wc))
                  case first =>
                    have H := HC38.out
                    clear HC38
                    by_cases c43 : x10_2 = (wrap64 (x9_10 - 1))
                    · rw [if_pos c43] at H
                      have c43b0 : (x10_2 == (wrap64 (x9_10 - 1))) = true := beq_iff_eq.mpr c43
                      have c43b1 : (x10_2 != (wrap64 (x9_10 - 1))) = false := bne_eq_false_iff_eq.mpr c43
                      clear c43
                      (first | rw [c43b0] | (simp only [i64_w, i32_w]; rw [c43b0]) | rw [c43b1] | skip)
                      have H' := Aside0.mk H
                      clear H
                      have hnb44 := NB226_214.out
                      have hnc44 := NB214_226.out
                      have hnb45 := NB226_223.out
                      have hnc45 := NB223_226.out
                      have hcz46_0 : w39.cell? ⟨gb226, 0, none⟩ = some (.string (⟨#[]⟩ : ByteArray)) := bc BK226 0
                      have hcz46_1 : w39.cell? ⟨gb226, 1, none⟩ = some (.string (⟨#[]⟩ : ByteArray)) := bc BK226 1
                      have hcz46_2 : w39.cell? ⟨gb226, 2, none⟩ = some (.int .i64 0) := bc BK226 2
                      have hfz46_0 := blk_frozen BK226.out 0
                      have hfz46_1 := blk_frozen BK226.out 1
                      have hfz46_2 := blk_frozen BK226.out 2
                      go_wp2_with (first | (go_at_call 15; refine (damperlaw2_within.keep _ _ rfl (by first | decide | assumption | exact wi_ne (by assumption) | exact wi_ne' (by assumption) | omega) _).mono ?_; rintro e w' ⟨rfl, rfl⟩))
                      go_meet
                      case rel => exact ⟨_, (x8_2), H', ⟨by have := HJ10.out; have := HK2.out; have := HJ31.out; first | omega | exact Nat.le_refl _⟩, ⟨by (with_reducible repeat (first | apply Kd.R_alloc | apply Kd.R_drewN | apply Kd.R_drew)); exact Kd.R_mono (Kd.R_far (p := ⟨gb226, 2, none⟩) (Kd.R_far (p := ⟨gb226, 2, none⟩) (Kd.R_far (p := ⟨gb226, 1, none⟩) (Kd.R_far (p := ⟨gb226, 0, none⟩) (Kd.R_mono HO_224002.out (fun k_ hk => (⟨hk, hk.2⟩ : _ ∧ k_ ≠ gb226))) (fun _ hk => hk.2) (.string (⟨#[]⟩ : ByteArray))) (fun _ hk => hk.2) (.string (⟨#[]⟩ : ByteArray))) (fun _ hk => hk.2) (.int .i64 ji37)) (fun _ hk => hk.2) (.int .i64 x8_2)) (fun _ hk => hk.1.2)⟩, ⟨by (repeat ((with_reducible repeat (first | refine blk_drewN ?_ _ | refine blk_drew ?_ | refine blk_alloc ?_ _)); with_reducible refine blk_far ?_ NB214_226.out _)); (with_reducible repeat (first | refine blk_drewN ?_ _ | refine blk_drew ?_ | refine blk_alloc ?_ _)); exact BK214.out⟩, ⟨by (repeat ((with_reducible repeat (first | refine blk_drewN ?_ _ | refine blk_drew ?_ | refine blk_alloc ?_ _)); with_reducible refine blk_far ?_ NB223_226.out _)); (with_reducible repeat (first | refine blk_drewN ?_ _ | refine blk_drew ?_ | refine blk_alloc ?_ _)); exact BK223.out⟩, ⟨by (with_reducible repeat (first | refine blk_drewN ?_ _ | refine blk_drew ?_ | refine blk_alloc ?_ _)); refine blk_put (cs := #[.string (⟨#[]⟩ : ByteArray), .string (⟨#[]⟩ : ByteArray), .int .i64 ji37]) ?_ 2 _ rfl; (with_reducible repeat (first | refine blk_drewN ?_ _ | refine blk_drew ?_ | refine blk_alloc ?_ _)); refine blk_put (cs := #[.string (⟨#[]⟩ : ByteArray), .string (⟨#[]⟩ : ByteArray), .int .i64 0]) ?_ 2 _ rfl; (with_reducible repeat (first | refine blk_drewN ?_ _ | refine blk_drew ?_ | refine blk_alloc ?_ _)); refine blk_put (cs := #[.string (⟨#[]⟩ : ByteArray), .string (⟨#[]⟩ : ByteArray), .int .i64 0]) ?_ 1 _ rfl; (with_reducible repeat (first | refine blk_drewN ?_ _ | refine blk_drew ?_ | refine blk_alloc ?_ _)); refine blk_put (cs := #[.string (⟨#[]⟩ : ByteArray), .string (⟨#[]⟩ : ByteArray), .int .i64 0]) ?_ 0 _ rfl; (with_reducible repeat (first | refine blk_drewN ?_ _ | refine blk_drew ?_ | refine blk_alloc ?_ _)); exact BK226.out⟩, ⟨by repeat (first | (with_reducible first | exact HB.out | apply below_alloc | apply pw_below_drewN | apply below_drew1 | refine below_set ?_ GE214.out | refine below_set ?_ GE223.out | refine below_set ?_ GE226.out) | exact HB.out)⟩⟩
                    · rw [if_neg c43] at H
                      have c43b0 : (x10_2 == (wrap64 (x9_10 - 1))) = false := beq_eq_false_iff_ne.mpr c43
                      have c43b1 : (x10_2 != (wrap64 (x9_10 - 1))) = true := bne_iff_ne.mpr c43
                      (first | rw [c43b0] | (simp only [i64_w, i32_w]; rw [c43b0]) | rw [c43b1] | skip)
                      have H' := Aside0.mk H
                      clear H
                      go_wp2_with (first | (go_at_call 15; refine (damperlaw2_within.keep _ _ rfl (by first | decide | assumption | exact wi_ne (by assumption) | exact wi_ne' (by assumption) | omega) _).mono ?_; rintro e w' ⟨rfl, rfl⟩))
                      go_meet
                      case rel => exact ⟨_, (ji37), H', ⟨by have := HJ10.out; have := HK2.out; have := HJ31.out; first | omega | exact Nat.le_refl _⟩, ⟨by (with_reducible repeat (first | apply Kd.R_alloc | apply Kd.R_drewN | apply Kd.R_drew)); exact Kd.R_mono (Kd.R_far (p := ⟨gb226, 2, none⟩) (Kd.R_far (p := ⟨gb226, 1, none⟩) (Kd.R_far (p := ⟨gb226, 0, none⟩) (Kd.R_mono HO_224002.out (fun k_ hk => (⟨hk, hk.2⟩ : _ ∧ k_ ≠ gb226))) (fun _ hk => hk.2) (.string (⟨#[]⟩ : ByteArray))) (fun _ hk => hk.2) (.string (⟨#[]⟩ : ByteArray))) (fun _ hk => hk.2) (.int .i64 ji37)) (fun _ hk => hk.1.2)⟩, ⟨by (repeat ((with_reducible repeat (first | refine blk_drewN ?_ _ | refine blk_drew ?_ | refine blk_alloc ?_ _)); with_reducible refine blk_far ?_ NB214_226.out _)); (with_reducible repeat (first | refine blk_drewN ?_ _ | refine blk_drew ?_ | refine blk_alloc ?_ _)); exact BK214.out⟩, ⟨by (repeat ((with_reducible repeat (first | refine blk_drewN ?_ _ | refine blk_drew ?_ | refine blk_alloc ?_ _)); with_reducible refine blk_far ?_ NB223_226.out _)); (with_reducible repeat (first | refine blk_drewN ?_ _ | refine blk_drew ?_ | refine blk_alloc ?_ _)); exact BK223.out⟩, ⟨by (with_reducible repeat (first | refine blk_drewN ?_ _ | refine blk_drew ?_ | refine blk_alloc ?_ _)); refine blk_put (cs := #[.string (⟨#[]⟩ : ByteArray), .string (⟨#[]⟩ : ByteArray), .int .i64 0]) ?_ 2 _ rfl; (with_reducible repeat (first | refine blk_drewN ?_ _ | refine blk_drew ?_ | refine blk_alloc ?_ _)); refine blk_put (cs := #[.string (⟨#[]⟩ : ByteArray), .string (⟨#[]⟩ : ByteArray), .int .i64 0]) ?_ 1 _ rfl; (with_reducible repeat (first | refine blk_drewN ?_ _ | refine blk_drew ?_ | refine blk_alloc ?_ _)); refine blk_put (cs := #[.string (⟨#[]⟩ : ByteArray), .string (⟨#[]⟩ : ByteArray), .int .i64 0]) ?_ 0 _ rfl; (with_reducible repeat (first | refine blk_drewN ?_ _ | refine blk_drew ?_ | refine blk_alloc ?_ _)); exact BK226.out⟩, ⟨by repeat (first | (with_reducible first | exact HB.out | apply below_alloc | apply pw_below_drewN | apply below_drew1 | refine below_set ?_ GE214.out | refine below_set ?_ GE223.out | refine below_set ?_ GE226.out) | exact HB.out)⟩⟩
                  case rest =>
                    clear HC38
                    try clear c2
                    try clear p2
                    try clear q2
                    try clear hx2
                    try clear qi2
                    try clear c3
                    try clear c4
                    try clear p6
                    try clear p21
                    try clear q21
                    try clear hx21
                    try clear p22
                    try clear q22
                    try clear hx22
                    try clear qi22
                    try clear c28
                    try clear c28b0
                    try clear c28b1
                    try clear c29
                    try clear c29b0
                    try clear c29b1
                    try clear c31
                    try clear c31b0
                    try clear c33
                    try clear c33b0
                    try clear c33b1
                    try clear c35
                    try clear c35b0
                    try clear c36
                    try clear c36b0
                    try clear c36b1
                    try clear c40
                    try clear c41
                    try clear c43
                    try clear c43b0
                    try clear c43b1
                    try clear c44
                    try clear c45
                    try clear hcz42_0
                    try clear hcz42_1
                    try clear hcz42_2
                    try clear hcz46_0
                    try clear hcz46_1
                    try clear hcz46_2
                    try clear hfz42_0
                    try clear hfz42_1
                    try clear hfz42_2
                    try clear hfz46_0
                    try clear hfz46_1
                    try clear hfz46_2
                    try clear hx218_0
                    try clear hx222_0
                    try clear hx224_0
                    try clear hx225_0
                    try clear p2
                    try clear p21
                    try clear p218
                    try clear p22
                    try clear p222
                    try clear p224
                    try clear p225
                    try clear p6
                    try clear q2
                    try clear q21
                    try clear q218
                    try clear q22
                    try clear q222
                    try clear q224
                    try clear q225
                    obtain ⟨kq, x227002_37, HA, HJ37, HO_224002, BK214, BK223, BK226, HB⟩ := hcut
                    cases kq with
                    | zero => exact absurd HA.out (by simp [damperlaw2_Route.j3])
                    | succ kj37 =>
                      have H := HA.out
                      clear HA
                      simp only [damperlaw2_Route.j3] at H
                      obtain ⟨ji47, hji47⟩ : ∃ j_ : Int, (wi (wrap64 (Int.tdiv x11_31 101)) 3) = j_ := ⟨_, rfl⟩
                      replace H : (if (ji47) > 0 then (if (rdOf ByteArray.empty y219 (ji7)).size + 1 ≤ 9223372036854775807 then ((some (([(wrap64 (49 + (wi (wrap64 (Int.tdiv x11_31 303)) 4))) % 256] : List Int) : List Int)).bind fun y227 => (if ((rdOf ByteArray.empty y219 (ji7)) ++ (⟨#[45]⟩ : ByteArray)).size + (strOfNums y227).size ≤ 9223372036854775807 then (damperlaw2_Route.j4 kj37 l1 x8_2 x9_10 x10_2 x11_31 (rdOf ByteArray.empty y215 (ji4)) (rdOf ByteArray.empty y219 (ji7)) x224002_2 ji10 (((rdOf ByteArray.empty y219 (ji7)) ++ (⟨#[45]⟩ : ByteArray)) ++ (strOfNums y227)) (⟨#[]⟩ : ByteArray) x227002_37) else (none))) else (none)) else (damperlaw2_Route.j4 kj37 l1 x8_2 x9_10 x10_2 x11_31 (rdOf ByteArray.empty y215 (ji4)) (rdOf ByteArray.empty y219 (ji7)) x224002_2 ji10 (⟨#[]⟩ : ByteArray) (⟨#[]⟩ : ByteArray) x227002_37)) = some (r1, r2, r3, r4) := by first | (rw [hji47] at H; exact H) | (simp only [hji47] at H ⊢; exact H)
                      have HC48 := Aside0.mk H
                      clear H
                      go_upto_if 65 with (first | (go_at_call 15; refine (damperlaw2_within.keep _ _ rfl (by first | decide | assumption | exact wi_ne (by assumption) | exact wi_ne' (by assumption) | omega) _).mono ?_; rintro e w' ⟨rfl, rfl⟩))
                      go_cut [] (fun wc => ∃ (kq : Nat) (x227000_47 : ByteArray), Aside0 (damperlaw2_Route.j4 kq l1 x8_2 x9_10 x10_2 x11_31 (rdOf ByteArray.empty y215 (ji4)) (rdOf ByteArray.empty y219 (ji7)) x224002_2 ji10 x227000_47 (⟨#[]⟩ : ByteArray) x227002_37 = some (r1, r2, r3, r4)) ∧ Aside0 (kq ≤ kj37) ∧ Aside0 (Kd.R k41 41 wc w.heap.size (fun k_ => k_ ≠ gb226) u224002 x224002_2) ∧ Aside0 (wc.heap[gb214]? = some (.cells #[.string (⟨#[]⟩ : ByteArray), .string (⟨#[]⟩ : ByteArray), (.slice none 0 0), .int .i64 0] 35 (0, 0))) ∧ Aside0 (wc.heap[gb223]? = some (.cells #[.string (rdOf ByteArray.empty y215 (ji4)), .string (rdOf ByteArray.empty y219 (ji7)), u224002, .int .i64 ji10] 35 (0, 0))) ∧ Aside0 (wc.heap[gb226]? = some (.cells #[.string x227000_47, .string (⟨#[]⟩ : ByteArray), .int .i64 x227002_37] 41 (0, 0))) ∧ Aside0 (Below w.heap.size w wc))
                      case first =>
                        have H := HC48.out
                        clear HC48
                        by_cases c49 : (ji47) > 0
                        · rw [if_pos c49] at H
                          have c49b0 : decide (0 < (ji47)) = true := decide_eq_true c49
                          clear c49
                          (first | rw [c49b0] | (simp only [i64_w, i32_w]; rw [c49b0]) | rw [c49b1] | skip)
                          by_cases c50 : (rdOf ByteArray.empty y219 (ji7)).size + 1 ≤ 9223372036854775807
                          rotate_left
                          · rw [if_neg c50] at H
                            exact absurd H (by simp)
                          rw [if_pos c50] at H
                          have c50b0 := eq_true c50
                          have c50b1 : decide ((rdOf ByteArray.empty y219 (ji7)).size + 1 ≤ 9223372036854775807) = true := decide_eq_true c50
                          try have c50b2 : (9223372036854775807 < (rdOf ByteArray.empty y219 (ji7)).size + 1) = False := eq_false (Nat.not_lt.2 c50)
                          try (have c50b4 := c50; simp at c50b4; have c50b5 := eq_false (Nat.not_lt.2 c50b4))
                          obtain ⟨ji51, hji51⟩ : ∃ j_ : Int, (wi (wrap64 (Int.tdiv x11_31 303)) 4) = j_ := ⟨_, rfl⟩
                          replace H : ((some (([(wrap64 (49 + (ji51))) % 256] : List Int) : List Int)).bind fun y227 => (if ((rdOf ByteArray.empty y219 (ji7)) ++ (⟨#[45]⟩ : ByteArray)).size + (strOfNums y227).size ≤ 9223372036854775807 then (damperlaw2_Route.j4 kj37 l1 x8_2 x9_10 x10_2 x11_31 (rdOf ByteArray.empty y215 (ji4)) (rdOf ByteArray.empty y219 (ji7)) x224002_2 ji10 (((rdOf ByteArray.empty y219 (ji7)) ++ (⟨#[45]⟩ : ByteArray)) ++ (strOfNums y227)) (⟨#[]⟩ : ByteArray) x227002_37) else (none))) = some (r1, r2, r3, r4) := by first | (rw [hji51] at H; exact H) | (simp only [hji51] at H ⊢; exact H)
                          obtain ⟨y227, hy227⟩ : ∃ y_ : List Int, y_ = (([(wrap64 (49 + (ji51))) % 256] : List Int)) := ⟨_, rfl⟩
                          replace H : (if ((rdOf ByteArray.empty y219 (ji7)) ++ (⟨#[45]⟩ : ByteArray)).size + (strOfNums y227).size ≤ 9223372036854775807 then (damperlaw2_Route.j4 kj37 l1 x8_2 x9_10 x10_2 x11_31 (rdOf ByteArray.empty y215 (ji4)) (rdOf ByteArray.empty y219 (ji7)) x224002_2 ji10 (((rdOf ByteArray.empty y219 (ji7)) ++ (⟨#[45]⟩ : ByteArray)) ++ (strOfNums y227)) (⟨#[]⟩ : ByteArray) x227002_37) else (none)) = some (r1, r2, r3, r4) := by first | (rw [hy227]; with_reducible exact H) | (have H2_ := (Option.bind_some _ _).symm.trans H; rw [hy227]; with_reducible exact H2_) | (have H2_ := (Option.bind_some _ _).symm.trans H; with_reducible exact H2_) | with_reducible exact H | (rw [hy227]; exact H) | exact H
                          have Ny227 := Aside0.mk hy227
                          clear hy227
                          by_cases c52 : ((rdOf ByteArray.empty y219 (ji7)) ++ (⟨#[45]⟩ : ByteArray)).size + (strOfNums y227).size ≤ 9223372036854775807
                          rotate_left
                          · rw [if_neg c52] at H
                            exact absurd H (by simp)
                          rw [if_pos c52] at H
                          have c52b0 := eq_true c52
                          have c52b1 : decide (((rdOf ByteArray.empty y219 (ji7)) ++ (⟨#[45]⟩ : ByteArray)).size + (strOfNums y227).size ≤ 9223372036854775807) = true := decide_eq_true c52
                          try have c52b3 : (9223372036854775807 < (rdOf ByteArray.empty y219 (ji7)).size + 1 + (strOfNums y227).size) = False := eq_false (by have h_ := c52; simp only [ByteArray.size_append] at h_; exact Nat.not_lt.2 h_)
                          try have c52b2 : (9223372036854775807 < ((rdOf ByteArray.empty y219 (ji7)) ++ (⟨#[45]⟩ : ByteArray)).size + (strOfNums y227).size) = False := eq_false (Nat.not_lt.2 c52)
                          try (have c52b4 := c52; simp at c52b4; have c52b5 := eq_false (Nat.not_lt.2 c52b4))
                          have H' := Aside0.mk H
                          clear H
                          try go_wp2_with (first | (go_at_call 15; refine (damperlaw2_within.keep _ _ rfl (by first | decide | assumption | exact wi_ne (by assumption) | exact wi_ne' (by assumption) | omega) _).mono ?_; rintro e w' ⟨rfl, rfl⟩))
                          replace HO_224002 := Aside0.mk (Kd.R_drew HO_224002.out)
                          replace BK214 := Aside0.mk (blk_drew BK214.out)
                          replace BK223 := Aside0.mk (blk_drew BK223.out)
                          replace BK226 := Aside0.mk (blk_drew BK226.out)
                          replace HB := Aside0.mk (below_drew1 HB.out)
                          refine start_ (n := 13) (S := fun w' => w'.cell? ⟨gb223, 0, none⟩ = some (.string (rdOf ByteArray.empty y215 (ji4))) ∧ w'.cell? ⟨gb223, 1, none⟩ = some (.string (rdOf ByteArray.empty y219 (ji7))) ∧ w'.cell? ⟨gb223, 2, none⟩ = some (u224002) ∧ w'.cell? ⟨gb223, 3, none⟩ = some (.int .i64 ji10)) (ds := []) #[false, false, false, false, false, false, false, false, false, false, false, false, false] (by kernel_rfl) rfl rfl ⟨bc BK223 0, bc BK223 1, bc BK223 2, bc BK223 3⟩ (fun hHeld => ?_); refine with_tabW damperlaw2_Route.tab16 damperlaw2_Route.bits16 (fun HT_ HW_ => ?_)
                          generalize wc.drew = w53 at HO_224002 BK214 BK223 BK226 HB hHeld ⊢
                          refine pure_ (i := 0) (N := some 66) (v := ?_) (a' := ?_) #[true, false, false, false, false, false, false, false, false, false, false, false, false] rfl rfl (any_of HT_.out (by kernel_rfl)) (fun _ _ _ h => h) (Or.inl ⟨by rfl, ?_⟩) ?_ ?_
                          rotate_left
                          · intro w'
                            go_simp
                            with_reducible rfl
                          rotate_left
                          · simp only [Act.put, List.setIfInBounds_toArray, List.set_cons_zero, List.set_cons_succ, i64_w, i32_w]
                            rfl
                          refine pure_ (i := 3) (N := some 69) (v := ?_) (a' := ?_) #[true, false, false, true, false, false, false, false, false, false, false, false, false] rfl rfl (any_of HT_.out (by kernel_rfl)) (fun _ _ _ h => h) (Or.inl ⟨by rfl, ?_⟩) ?_ ?_
                          rotate_left
                          · intro w'
                            go_simp
                            with_reducible rfl
                          rotate_left
                          · simp only [Act.put, List.setIfInBounds_toArray, List.set_cons_zero, List.set_cons_succ, i64_w, i32_w]
                            rfl
                          refine pure_ (i := 4) (N := some 70) (v := ?_) (a' := ?_) #[true, false, false, true, true, false, false, false, false, false, false, false, false] rfl rfl (any_of HT_.out (by kernel_rfl)) (fun _ _ _ h => h) (Or.inl ⟨by rfl, ?_⟩) ?_ ?_
                          rotate_left
                          · intro w'
                            go_simp
                            with_reducible rfl
                          rotate_left
                          · simp only [Act.put, List.setIfInBounds_toArray, List.set_cons_zero, List.set_cons_succ, i64_w, i32_w]
                            rfl
                          refine callp_ (i := 5) (N := some 71) (a' := ?a6_) #[true, false, false, true, true, true, false, false, false, false, false, false, false] rfl rfl (by kernel_rfl) (fun _ _ _ h => h) (by rfl) Tryd.func15 (by kernel_rfl) rfl rfl (by (try simp only [List.map_toArray, List.map_cons, List.map_nil]); rfl) (damperlaw2_within.same _ _ (r := ?jj6_) ?hj6_ (by first | decide | assumption | exact wi_ne (by assumption) | exact wi_ne' (by assumption) | omega)) ?ha6_ ?h6_
                          (case hj6_ => (try simp only [i64_w, i32_w]); first | assumption | (go_simp; rfl))
                          (case ha6_ => simp only [Act.put, List.setIfInBounds_toArray, List.set_cons_zero, List.set_cons_succ, i64_w, i32_w]; rfl)
                          refine pure_ (i := 6) (N := some 72) (v := ?_) (a' := ?_) #[true, false, false, true, true, true, true, false, false, false, false, false, false] rfl rfl (any_of HT_.out (by kernel_rfl)) (fun _ _ _ h => h) (Or.inl ⟨by rfl, ?_⟩) ?_ ?_
                          rotate_left
                          · intro w'
                            go_simp
                            with_reducible rfl
                          rotate_left
                          · simp only [Act.put, List.setIfInBounds_toArray, List.set_cons_zero, List.set_cons_succ, i64_w, i32_w]
                            rfl
                          refine pure_ (i := 7) (N := some 73) (v := ?_) (a' := ?_) #[true, false, false, true, true, true, true, true, false, false, false, false, false] rfl rfl (any_of HT_.out (by kernel_rfl)) (fun _ _ _ h => h) (Or.inl ⟨by rfl, ?_⟩) ?_ ?_
                          rotate_left
                          · intro w'
                            go_simp
                            with_reducible rfl
                          rotate_left
                          · simp only [Act.put, List.setIfInBounds_toArray, List.set_cons_zero, List.set_cons_succ, i64_w, i32_w]
                            rfl
                          refine take_ (i := 1) (N := some 67) (v := ?_) (a' := ?_) #[true, true, false, true, true, true, true, true, false, false, false, false, false] rfl rfl (take_ofW HT_.out HW_.out (by kernel_rfl)) (fun _ _ _ h => h) (Or.inl ⟨by rfl, ?_⟩) hHeld ?_ ?_
                          rotate_left
                          · rintro w' ⟨s0, s1, s2, s3⟩
                            go_simp
                            with_reducible rfl
                          rotate_left
                          · simp only [Act.put, List.setIfInBounds_toArray, List.set_cons_zero, List.set_cons_succ, i64_w, i32_w]
                            rfl
                          refine pure_ (i := 2) (N := some 68) (v := ?_) (a' := ?_) #[true, true, true, true, true, true, true, true, false, false, false, false, false] rfl rfl (any_of HT_.out (by kernel_rfl)) (fun _ _ _ h => h) (Or.inl ⟨by rfl, ?_⟩) ?_ ?_
                          rotate_left
                          · intro w'
                            go_simp
                            with_reducible rfl
                          rotate_left
                          · simp only [Act.put, List.setIfInBounds_toArray, List.set_cons_zero, List.set_cons_succ, i64_w, i32_w]
                            rfl
                          refine one_ (i := 8) (N := some 74) #[true, true, true, true, true, true, true, true, true, false, false, false, false] rfl rfl (one_of HT_.out (by kernel_rfl)) (by decide) (fun K hK => ?_)
                          refine Kd.R_lit_step (Kd.int .u8) _ 5 ?hg (N := 74) ?hd (xs := ([(wrap64 (49 + (ji51))) % 256] : List Int)) (inner := [.int .u8 ((wrap64 (49 + (ji51))) % 256)]) (ok := fun _ => True) (okp := fun _ => True) ?hr ?hp (fun _ hk => hk) trivial (Below.refl _ _) (Nat.le_refl _) (by simp) ?_; (case hd => rfl); (case hg => rfl); (case hr => first | (go_simp; done) | (go_simp; rfl)); (case hp => exact (Reps.one (show Kd.M (Kd.int .u8) _ _ _ ((wrap64 (49 + (ji51))) % 256) [.int .u8 ((wrap64 (49 + (ji51))) % 256)] from rfl) (Reps.none _ _)))
                          intro v228 w54 ho55 hb hg_ hnew_
                          clear hg_ hnew_
                          (first | rw [← Ny227.out] at ho55 | (simp only [Int.reduceToNat] at ho55; rw [← Ny227.out] at ho55))
                          have HO229 := Aside0.mk (Kd.R_lower ho55 (below_size (by repeat (first | (with_reducible first | exact HB.out | apply below_alloc | apply pw_below_drewN | apply below_drew1 | refine below_set ?_ GE214.out | refine below_set ?_ GE223.out | refine below_set ?_ GE226.out) | exact HB.out))))
                          replace HO_224002 := Aside0.mk (Kd.R_below (by (with_reducible repeat (first | apply Kd.R_alloc | apply Kd.R_drewN | apply Kd.R_drew)); exact HO_224002.out) hb)
                          replace BK214 := Aside0.mk (blk_below (g := gb214) (pk BK214) hb)
                          replace BK223 := Aside0.mk (blk_below (g := gb223) (pk BK223) hb)
                          replace BK226 := Aside0.mk (blk_below (g := gb226) (pk BK226) hb)
                          replace HB := Aside0.mk (below_step (by repeat (first | (with_reducible first | exact HB.out | apply below_alloc | apply pw_below_drewN | apply below_drew1 | refine below_set ?_ GE214.out | refine below_set ?_ GE223.out | refine below_set ?_ GE226.out) | exact HB.out)) hb)
                          clear hb ho55
                          refine hK.out _ _ ⟨bc BK223 0, bc BK223 1, bc BK223 2, bc BK223 3⟩ (fun hHeld => ?_)
                          clear hK K
                          refine norm_ (a' := ?_) ?_ ?_
                          rotate_left
                          · show Act.put _ (some 74) _ = _
                            simp only [Act.put, List.setIfInBounds_toArray, List.set_cons_zero, List.set_cons_succ, i64_w, i32_w]
                            rfl
                          refine one_ (i := 9) (N := some 75) #[true, true, true, true, true, true, true, true, true, true, false, false, false] rfl rfl (one_of HT_.out (by kernel_rfl)) (by decide) (fun K hK => ?_)
                          have hcv56 := own_string (P := Tryd.prog) Tryd.underlying52 Tryd.underlying5 Tryd.underlying9 (Kd.own_of_R HO229.out)
                          with_reducible_and_instances refine value_ (w1 := ?_) (v := ?_) ?hw_ ?hN_ ?_ ?_
                          (case hw_ => rfl)
                          (case hN_ => rfl)
                          rotate_left 2
                          · go_simp
                            constructor
                            · rfl
                            · rfl
                          clear hcv56
                          refine hK.out _ _ ⟨bc BK223 0, bc BK223 1, bc BK223 2, bc BK223 3⟩ (fun hHeld => ?_)
                          clear hK K
                          refine norm_ (a' := ?_) ?_ ?_
                          rotate_left
                          · show Act.put _ (some 75) _ = _
                            simp only [Act.put, List.setIfInBounds_toArray, List.set_cons_zero, List.set_cons_succ, i64_w, i32_w]
                            rfl
                          refine pure_ (i := 10) (N := some 76) (v := ?_) (a' := ?_) #[true, true, true, true, true, true, true, true, true, true, true, false, false] rfl rfl (any_of HT_.out (by kernel_rfl)) (fun _ _ _ h => h) (Or.inl ⟨by rfl, ?_⟩) ?_ ?_
                          rotate_left
                          · intro w'
                            go_simp
                            with_reducible rfl
                          rotate_left
                          · simp only [Act.put, List.setIfInBounds_toArray, List.set_cons_zero, List.set_cons_succ, i64_w, i32_w]
                            rfl
                          refine pure_ (i := 11) (N := some 77) (v := ?_) (a' := ?_) #[true, true, true, true, true, true, true, true, true, true, true, true, false] rfl rfl (any_of HT_.out (by kernel_rfl)) (fun _ _ _ h => h) (Or.inl ⟨by rfl, ?_⟩) ?_ ?_
                          rotate_left
                          · intro w'
                            go_simp
                            with_reducible rfl
                          rotate_left
                          · simp only [Act.put, List.setIfInBounds_toArray, List.set_cons_zero, List.set_cons_succ, i64_w, i32_w]
                            rfl
                          refine one_ (i := 12) (N := none) #[true, true, true, true, true, true, true, true, true, true, true, true, true] rfl rfl (one_of HT_.out (by kernel_rfl)) (by decide) (fun K hK => ?_)
                          have hs57 : w54.cell? ⟨gb226, 0, none⟩ = some (.string (⟨#[]⟩ : ByteArray)) := bc BK226 0
                          have hfs57 := blk_frozen BK226.out 0
                          have hns57_0 := NB214_226.out
                          have hns57_1 := NB223_226.out
                          have hms57_0 := NB226_214.out
                          have hms57_1 := NB226_223.out
                          with_reducible_and_instances refine skip_ (w1 := ?_) ?hw_ ?hN_ ?_ ?_
                          (case hw_ => rfl)
                          (case hN_ => rfl)
                          rotate_left
                          · go_simp
                            rfl
                          refine hK.out _ _ ⟨(cf NB223_226 (hHeld.1)), (cf NB223_226 (hHeld.2.1)), (cf NB223_226 (hHeld.2.2.1)), (cf NB223_226 (hHeld.2.2.2))⟩ (fun hHeld => ?_)
                          clear hK K
                          refine done_ (done_of HT_.out (by kernel_rfl)) ?_
                          try go_wp2_with (first | (go_at_call 15; refine (damperlaw2_within.keep _ _ rfl (by first | decide | assumption | exact wi_ne (by assumption) | exact wi_ne' (by assumption) | omega) _).mono ?_; rintro e w' ⟨rfl, rfl⟩))
                          go_meet
                          case rel => exact ⟨_, (((rdOf ByteArray.empty y219 (ji7)) ++ (⟨#[45]⟩ : ByteArray)) ++ (strOfNums y227)), H', ⟨by have := HJ10.out; have := HK2.out; have := HJ31.out; have := HJ37.out; first | omega | exact Nat.le_refl _⟩, ⟨by (with_reducible repeat (first | apply Kd.R_alloc | apply Kd.R_drewN | apply Kd.R_drew)); exact Kd.R_mono (Kd.R_far (p := ⟨gb226, 0, none⟩) (Kd.R_mono HO_224002.out (fun k_ hk => (⟨hk, hk⟩ : _ ∧ k_ ≠ gb226))) (fun _ hk => hk.2) (.string (((rdOf ByteArray.empty y219 (ji7)) ++ (⟨#[45]⟩ : ByteArray)) ++ (strOfNums y227)))) (fun _ hk => hk.1)⟩, ⟨by (with_reducible repeat (first | refine blk_drewN ?_ _ | refine blk_drew ?_ | refine blk_alloc ?_ _)); refine blk_far ?_ NB214_226.out _; (with_reducible repeat (first | refine blk_drewN ?_ _ | refine blk_drew ?_ | refine blk_alloc ?_ _)); exact BK214.out⟩, ⟨by (with_reducible repeat (first | refine blk_drewN ?_ _ | refine blk_drew ?_ | refine blk_alloc ?_ _)); refine blk_far ?_ NB223_226.out _; (with_reducible repeat (first | refine blk_drewN ?_ _ | refine blk_drew ?_ | refine blk_alloc ?_ _)); exact BK223.out⟩, ⟨by (with_reducible repeat (first | refine blk_drewN ?_ _ | refine blk_drew ?_ | refine blk_alloc ?_ _)); refine blk_put (cs := #[.string (⟨#[]⟩ : ByteArray), .string (⟨#[]⟩ : ByteArray), .int .i64 x227002_37]) ?_ 0 _ rfl; (with_reducible repeat (first | refine blk_drewN ?_ _ | refine blk_drew ?_ | refine blk_alloc ?_ _)); exact BK226.out⟩, ⟨by repeat (first | (with_reducible first | exact HB.out | apply below_alloc | apply pw_below_drewN | apply below_drew1 | refine below_set ?_ GE214.out | refine below_set ?_ GE223.out | refine below_set ?_ GE226.out) | exact HB.out)⟩⟩
                        · rw [if_neg c49] at H
                          have c49b0 : decide (0 < (ji47)) = false := decide_eq_false c49
                          clear c49
                          (first | rw [c49b0] | (simp only [i64_w, i32_w]; rw [c49b0]) | rw [c49b1] | skip)
                          have H' := Aside0.mk H
                          clear H
                          go_wp2_with (first | (go_at_call 15; refine (damperlaw2_within.keep _ _ rfl (by first | decide | assumption | exact wi_ne (by assumption) | exact wi_ne' (by assumption) | omega) _).mono ?_; rintro e w' ⟨rfl, rfl⟩))
                          go_meet
                          case rel => exact ⟨_, ((⟨#[]⟩ : ByteArray)), H', ⟨by have := HJ10.out; have := HK2.out; have := HJ31.out; have := HJ37.out; first | omega | exact Nat.le_refl _⟩, ⟨by (with_reducible repeat (first | apply Kd.R_alloc | apply Kd.R_drewN | apply Kd.R_drew)); exact HO_224002.out⟩, ⟨by (with_reducible repeat (first | refine blk_drewN ?_ _ | refine blk_drew ?_ | refine blk_alloc ?_ _)); exact BK214.out⟩, ⟨by (with_reducible repeat (first | refine blk_drewN ?_ _ | refine blk_drew ?_ | refine blk_alloc ?_ _)); exact BK223.out⟩, ⟨by (with_reducible repeat (first | refine blk_drewN ?_ _ | refine blk_drew ?_ | refine blk_alloc ?_ _)); exact BK226.out⟩, ⟨by repeat (first | (with_reducible first | exact HB.out | apply below_alloc | apply pw_below_drewN | apply below_drew1 | refine below_set ?_ GE214.out | refine below_set ?_ GE223.out | refine below_set ?_ GE226.out) | exact HB.out)⟩⟩
                      case rest =>
                        clear HC48
                        try clear c1
                        try clear c2
                        try clear p2
                        try clear q2
                        try clear hx2
                        try clear qi2
                        try clear c3
                        try clear c4
                        try clear c5
                        try clear hcv5
                        try clear p6
                        try clear c15
                        try clear p21
                        try clear q21
                        try clear hx21
                        try clear p22
                        try clear q22
                        try clear hx22
                        try clear qi22
                        try clear c28
                        try clear c28b0
                        try clear c28b1
                        try clear c29
                        try clear c29b0
                        try clear c29b1
                        try clear c31
                        try clear c31b0
                        try clear c33
                        try clear c33b0
                        try clear c33b1
                        try clear c35
                        try clear c35b0
                        try clear c36
                        try clear c36b0
                        try clear c36b1
                        try clear c40
                        try clear c41
                        try clear c43
                        try clear c43b0
                        try clear c43b1
                        try clear c44
                        try clear c45
                        try clear c49
                        try clear c49b0
                        try clear c49b1
                        try clear c50
                        try clear c50b0
                        try clear c50b1
                        try clear c50b2
                        try clear c52
                        try clear c52b0
                        try clear c52b1
                        try clear c52b2
                        try clear hcv56
                        try clear hcz42_0
                        try clear hcz42_1
                        try clear hcz42_2
                        try clear hcz46_0
                        try clear hcz46_1
                        try clear hcz46_2
                        try clear hfz42_0
                        try clear hfz42_1
                        try clear hfz42_2
                        try clear hfz46_0
                        try clear hfz46_1
                        try clear hfz46_2
                        try clear hx218_0
                        try clear hx222_0
                        try clear hx224_0
                        try clear hx225_0
                        try clear p2
                        try clear p21
                        try clear p218
                        try clear p22
                        try clear p222
                        try clear p224
                        try clear p225
                        try clear p6
                        try clear q2
                        try clear q21
                        try clear q218
                        try clear q22
                        try clear q222
                        try clear q224
                        try clear q225
                        obtain ⟨kq, x227000_47, HA, HJ47, HO_224002, BK214, BK223, BK226, HB⟩ := hcut
                        cases kq with
                        | zero => exact absurd HA.out (by simp [damperlaw2_Route.j4])
                        | succ kj47 =>
                          have H := HA.out
                          clear HA
                          simp only [damperlaw2_Route.j4] at H
                          obtain ⟨ji58, hji58⟩ : ∃ j_ : Int, (wi (wrap64 (Int.tdiv x11_31 1212)) 3) = j_ := ⟨_, rfl⟩
                          replace H : (if (ji58) = 0 then ((some (([(wrap64 (48 + x10_2)) % 256] : List Int) : List Int)).bind fun y230 => (if 1 + (strOfNums y230).size ≤ 9223372036854775807 then (if x224002_2.length < 3518437208883 then (damperlaw2_Route.l0 kj47 l1 (wrap64 (x8_2 - x227002_37)) x9_10 (wrap64 (x10_2 + 1)) (rdOf ByteArray.empty y215 (ji4)) (rdOf ByteArray.empty y219 (ji7)) (x224002_2 ++ [(⟨x227000_47, (⟨#[116]⟩ : ByteArray) ++ (strOfNums y230), x227002_37⟩ : S41)]) ji10) else (none)) else (none))) else (if x224002_2.length < 3518437208883 then (damperlaw2_Route.l0 kj47 l1 (wrap64 (x8_2 - x227002_37)) x9_10 (wrap64 (x10_2 + 1)) (rdOf ByteArray.empty y215 (ji4)) (rdOf ByteArray.empty y219 (ji7)) (x224002_2 ++ [(⟨x227000_47, (⟨#[]⟩ : ByteArray), x227002_37⟩ : S41)]) ji10) else (none))) = some (r1, r2, r3, r4) := by first | (rw [hji58] at H; exact H) | (simp only [hji58] at H ⊢; exact H)
                          by_cases c59 : (ji58) = 0
                          · rw [if_pos c59] at H
                            have c59b0 : ((ji58) == 0) = true := beq_iff_eq.mpr c59
                            have c59b1 : ((ji58) != 0) = false := bne_eq_false_iff_eq.mpr c59
                            clear c59
                            obtain ⟨y230, hy230⟩ : ∃ y_ : List Int, y_ = (([(wrap64 (48 + x10_2)) % 256] : List Int)) := ⟨_, rfl⟩
                            replace H : (if 1 + (strOfNums y230).size ≤ 9223372036854775807 then (if x224002_2.length < 3518437208883 then (damperlaw2_Route.l0 kj47 l1 (wrap64 (x8_2 - x227002_37)) x9_10 (wrap64 (x10_2 + 1)) (rdOf ByteArray.empty y215 (ji4)) (rdOf ByteArray.empty y219 (ji7)) (x224002_2 ++ [(⟨x227000_47, (⟨#[116]⟩ : ByteArray) ++ (strOfNums y230), x227002_37⟩ : S41)]) ji10) else (none)) else (none)) = some (r1, r2, r3, r4) := by first | (rw [hy230]; with_reducible exact H) | (have H2_ := (Option.bind_some _ _).symm.trans H; rw [hy230]; with_reducible exact H2_) | (have H2_ := (Option.bind_some _ _).symm.trans H; with_reducible exact H2_) | with_reducible exact H | (rw [hy230]; exact H) | exact H
                            have Ny230 := Aside0.mk hy230
                            clear hy230
                            by_cases c60 : 1 + (strOfNums y230).size ≤ 9223372036854775807
                            rotate_left
                            · rw [if_neg c60] at H
                              exact absurd H (by simp)
                            rw [if_pos c60] at H
                            have c60b0 := eq_true c60
                            have c60b1 : decide (1 + (strOfNums y230).size ≤ 9223372036854775807) = true := decide_eq_true c60
                            try have c60b2 : (9223372036854775807 < 1 + (strOfNums y230).size) = False := eq_false (Nat.not_lt.2 c60)
                            try (have c60b4 := c60; simp at c60b4; have c60b5 := eq_false (Nat.not_lt.2 c60b4))
                            by_cases c61 : x224002_2.length < 3518437208883
                            rotate_left
                            · rw [if_neg c61] at H
                              exact absurd H (by simp)
                            rw [if_pos c61] at H
                            have LMc61 := Aside0.mk c61
                            clear c61
                            obtain ⟨y233, hy233⟩ : ∃ y_ : List (S41), y_ = (x224002_2 ++ [(⟨x227000_47, (⟨#[116]⟩ : ByteArray) ++ (strOfNums y230), x227002_37⟩ : S41)]) := ⟨_, rfl⟩
                            replace H : (damperlaw2_Route.l0 kj47 l1 (wrap64 (x8_2 - x227002_37)) x9_10 (wrap64 (x10_2 + 1)) (rdOf ByteArray.empty y215 (ji4)) (rdOf ByteArray.empty y219 (ji7)) y233 ji10) = some (r1, r2, r3, r4) := by first | (rw [hy233]; with_reducible exact H) | (have H2_ := (Option.bind_some _ _).symm.trans H; rw [hy233]; with_reducible exact H2_) | (have H2_ := (Option.bind_some _ _).symm.trans H; with_reducible exact H2_) | with_reducible exact H | (rw [hy233]; exact H) | exact H
                            have Ny233 := Aside0.mk hy233
                            clear hy233
                            have H' := Aside0.mk H
                            clear H
                            go_wp2_with (first | (go_at_call 15; refine (damperlaw2_within.keep _ _ rfl (by first | decide | assumption | exact wi_ne (by assumption) | exact wi_ne' (by assumption) | omega) _).mono ?_; rintro e w' ⟨rfl, rfl⟩) | ((with_reducible refine gate_dst (N := 85) rfl ?_); refine Kd.R_lit (Kd.int .u8) _ 5 ?hg (N := 85) ?hd (xs := ([(wrap64 (48 + x10_2)) % 256] : List Int)) (inner := [.int .u8 ((wrap64 (48 + x10_2)) % 256)]) (ok := fun _ => True) (okp := fun _ => True) ?hr ?hp (fun _ hk => hk) trivial (Below.refl _ _) (Nat.le_refl _) (by simp) ?_; (case hd => rfl); (case hg => rfl); (case hr => first | (go_simp; done) | (go_simp; rfl)); (case hp => exact (Reps.one (show Kd.M (Kd.int .u8) _ _ _ ((wrap64 (48 + x10_2)) % 256) [.int .u8 ((wrap64 (48 + x10_2)) % 256)] from rfl) (Reps.none _ _))); intro v231 w62 ho63 hb hg_ hnew_; clear hg_ hnew_; (first | rw [← Ny230.out] at ho63 | (simp only [Int.reduceToNat] at ho63; rw [← Ny230.out] at ho63)); have n0_ := Aside0.mk (Kd.R_below (by (with_reducible repeat (first | apply Kd.R_alloc | apply Kd.R_drewN | apply Kd.R_drew)); exact HO_224002.out) hb); have n1_ := Aside0.mk (Kd.R_lower ho63 (below_size (by repeat (first | (with_reducible first | exact HB.out | apply below_alloc | apply pw_below_drewN | apply below_drew1 | refine below_set ?_ GE214.out | refine below_set ?_ GE223.out | refine below_set ?_ GE226.out) | exact HB.out)))); have n2_ := Aside0.mk (blk_below (g := gb214) (pk BK214) hb); have n3_ := Aside0.mk (blk_below (g := gb223) (pk BK223) hb); have n4_ := Aside0.mk (blk_below (g := gb226) (pk BK226) hb); have n5_ := Aside0.mk (below_step (by repeat (first | (with_reducible first | exact HB.out | apply below_alloc | apply pw_below_drewN | apply below_drew1 | refine below_set ?_ GE214.out | refine below_set ?_ GE223.out | refine below_set ?_ GE226.out) | exact HB.out)) hb); clear HO_224002; clear BK214; clear BK223; clear BK226; clear HB; have HO_224002 := n0_; have HO232 := n1_; have BK214 := n2_; have BK223 := n3_; have BK226 := n4_; have HB := n5_; clear n0_ n1_ n2_ n3_ n4_ n5_; clear hb ho63; have hcv64 := own_string (P := Tryd.prog) Tryd.underlying52 Tryd.underlying5 Tryd.underlying9 (Kd.own_of_R HO232.out); have hnb65 := NB226_214.out; have hnc65 := NB214_226.out; have hnb66 := NB226_223.out; have hnc66 := NB223_226.out; have hcz67_0 : w62.cell? ⟨gb226, 0, none⟩ = some (.string x227000_47) := bc BK226 0; have hcz67_1 : w62.cell? ⟨gb226, 1, none⟩ = some (.string (⟨#[]⟩ : ByteArray)) := bc BK226 1; have hcz67_2 : w62.cell? ⟨gb226, 2, none⟩ = some (.int .i64 x227002_37) := bc BK226 2; have hfz67_0 := blk_frozen BK226.out 0; have hfz67_1 := blk_frozen BK226.out 1; have hfz67_2 := blk_frozen BK226.out 2; have hnb68 := NB223_214.out; have hnc68 := NB214_223.out; have hcz69_0 : w62.cell? ⟨gb223, 0, none⟩ = some (.string (rdOf ByteArray.empty y215 (ji4))) := bc BK223 0; have hcz69_1 : w62.cell? ⟨gb223, 1, none⟩ = some (.string (rdOf ByteArray.empty y219 (ji7))) := bc BK223 1; have hcz69_2 : w62.cell? ⟨gb223, 2, none⟩ = some (u224002) := bc BK223 2; have hcz69_3 : w62.cell? ⟨gb223, 3, none⟩ = some (.int .i64 ji10) := bc BK223 3; have hfz69_0 := blk_frozen BK223.out 0; have hfz69_1 := blk_frozen BK223.out 1; have hfz69_2 := blk_frozen BK223.out 2; have hfz69_3 := blk_frozen BK223.out 3) | ((with_reducible refine gate_builtin (b := .append) (xs := #[.tmp 94, .tmp 96]) rfl ?_); at_builtin; refine Kd.R_append k41 (w0 := w) w.heap.size rfl (.tmp 94) (.tmp 96) 33 41 (.agg #[(.string ⟨#[]⟩), (.string ⟨#[]⟩), (.int .i64 0)]) 40 rfl Tryd.underlying33 info41 rfl (by decide) (by omega) u224002 x224002_2 (⟨x227000_47, (⟨#[116]⟩ : ByteArray) ++ (strOfNums y230), x227002_37⟩ : S41) [.string x227000_47, .string ((⟨#[116]⟩ : ByteArray) ++ (strOfNums y230)), .int .i64 x227002_37] (fun k_ => k_ ≠ gb226) (fun _ => False) rfl (by first | (go_simp; done) | (go_simp; rfl)) ?aP (fun _ hk => hk.elim) ?aF ?aO ?aB ?aS ?aL ?_; (case aP => exact k41_mkM _ _ _ (⟨x227000_47, (⟨#[116]⟩ : ByteArray) ++ (strOfNums y230), x227002_37⟩ : S41)); (case aB => exact (by repeat (first | (with_reducible first | exact HB.out | apply below_alloc | apply pw_below_drewN | apply below_drew1 | refine below_set ?_ GE214.out | refine below_set ?_ GE223.out | refine below_set ?_ GE226.out) | exact HB.out))); (case aF => exact (fun k_ hk => Kd.freshB (g := gb226) (o := .cells #[.string x227000_47, .string ((⟨#[116]⟩ : ByteArray) ++ (strOfNums y230)), .int .i64 x227002_37] 41 (0, 0)) (by (with_reducible repeat (first | refine blk_drewN ?_ _ | refine blk_drew ?_ | refine blk_alloc ?_ _)); refine blk_put (cs := #[.string x227000_47, .string (⟨#[]⟩ : ByteArray), .int .i64 x227002_37]) ?_ 1 _ rfl; (with_reducible repeat (first | refine blk_drewN ?_ _ | refine blk_drew ?_ | refine blk_alloc ?_ _)); exact BK226.out) k_ hk)); (case aO => exact (by (with_reducible repeat (first | apply Kd.R_alloc | apply Kd.R_drewN | apply Kd.R_drew)); exact Kd.R_mono (Kd.R_far (p := ⟨gb226, 1, none⟩) (Kd.R_mono HO_224002.out (fun k_ hk => (⟨hk, hk⟩ : _ ∧ k_ ≠ gb226))) (fun _ hk => hk.2) (.string ((⟨#[116]⟩ : ByteArray) ++ (strOfNums y230)))) (fun _ hk => hk.1))); (case aS => exact (below_size (by repeat (first | (with_reducible first | exact HB.out | apply below_alloc | apply pw_below_drewN | apply below_drew1 | refine below_set ?_ GE214.out | refine below_set ?_ GE223.out | refine below_set ?_ GE226.out) | exact HB.out)))); (case aL => have := LMc61.out; omega); intro v234 w70 ho hb hg hat; rw [← Ny233.out] at ho; have n0_ := Aside0.mk (blk_grown (g := gb214) (o := .cells #[.string (⟨#[]⟩ : ByteArray), .string (⟨#[]⟩ : ByteArray), .slice none 0 0, .int .i64 0] 35 (0, 0)) (by (with_reducible repeat (first | refine blk_drewN ?_ _ | refine blk_drew ?_ | refine blk_alloc ?_ _)); refine blk_far ?_ NB214_226.out _; (with_reducible repeat (first | refine blk_drewN ?_ _ | refine blk_drew ?_ | refine blk_alloc ?_ _)); exact BK214.out) hg (Kd.R_ne HO_224002.out BK214.out (by decide))); have n1_ := Aside0.mk (blk_grown (g := gb223) (o := .cells #[.string (rdOf ByteArray.empty y215 (ji4)), .string (rdOf ByteArray.empty y219 (ji7)), u224002, .int .i64 ji10] 35 (0, 0)) (by (with_reducible repeat (first | refine blk_drewN ?_ _ | refine blk_drew ?_ | refine blk_alloc ?_ _)); refine blk_far ?_ NB223_226.out _; (with_reducible repeat (first | refine blk_drewN ?_ _ | refine blk_drew ?_ | refine blk_alloc ?_ _)); exact BK223.out) hg (Kd.R_ne HO_224002.out BK223.out (by decide))); have n2_ := Aside0.mk (blk_grown (g := gb226) (o := .cells #[.string x227000_47, .string ((⟨#[116]⟩ : ByteArray) ++ (strOfNums y230)), .int .i64 x227002_37] 41 (0, 0)) (by (with_reducible repeat (first | refine blk_drewN ?_ _ | refine blk_drew ?_ | refine blk_alloc ?_ _)); refine blk_put (cs := #[.string x227000_47, .string (⟨#[]⟩ : ByteArray), .int .i64 x227002_37]) ?_ 1 _ rfl; (with_reducible repeat (first | refine blk_drewN ?_ _ | refine blk_drew ?_ | refine blk_alloc ?_ _)); exact BK226.out) hg (Kd.R_away HO_224002.out (fun _ hk => hk))); have n3_ := Aside0.mk (Kd.R_over' (by (with_reducible repeat (first | apply Kd.R_alloc | apply Kd.R_drewN | apply Kd.R_drew)); exact (Kd.R_mono (Kd.R_far (p := ⟨gb226, 1, none⟩) (Kd.R_types HO232.out BK226.out (by decide)) (fun _ hk => hk.2) (.string ((⟨#[116]⟩ : ByteArray) ++ (strOfNums y230)))) (fun _ h_ => h_.1))) (Kd.R_typed (by (with_reducible repeat (first | apply Kd.R_alloc | apply Kd.R_drewN | apply Kd.R_drew)); exact (Kd.R_mono (Kd.R_far (p := ⟨gb226, 1, none⟩) (Kd.R_mono HO_224002.out (fun k_ hk => (⟨hk, hk⟩ : _ ∧ k_ ≠ gb226))) (fun _ hk => hk.2) (.string ((⟨#[116]⟩ : ByteArray) ++ (strOfNums y230)))) (fun _ h_ => h_.1)))) (by decide) hg); have n4_ := Aside0.mk (hb); have n5_ := Aside0.mk (ho); clear BK214; clear BK223; clear BK226; clear HO232; clear HB; clear HO_224002; have BK214 := n0_; have BK223 := n1_; have BK226 := n2_; have HO232 := n3_; have HB := n4_; have HO235 := n5_; clear n0_ n1_ n2_ n3_ n4_ n5_; clear ho hb hg hat; obtain ⟨Ao71, co71, eo71⟩ := Kd.R_slice HO235.out; subst eo71; have hcz72_0 : w70.cell? ⟨gb223, 0, none⟩ = some (.string (rdOf ByteArray.empty y215 (ji4))) := bc BK223 0; have hcz72_1 : w70.cell? ⟨gb223, 1, none⟩ = some (.string (rdOf ByteArray.empty y219 (ji7))) := bc BK223 1; have hcz72_2 : w70.cell? ⟨gb223, 2, none⟩ = some (u224002) := bc BK223 2; have hcz72_3 : w70.cell? ⟨gb223, 3, none⟩ = some (.int .i64 ji10) := bc BK223 3; have hfz72_0 := blk_frozen BK223.out 0; have hfz72_1 := blk_frozen BK223.out 1; have hfz72_2 := blk_frozen BK223.out 2; have hfz72_3 := blk_frozen BK223.out 3))
                            go_roundg kj47
                            case measure => have := HJ10.out; have := HK2.out; have := HJ31.out; have := HJ37.out; have := HJ47.out; omega
                            case rel => exact ⟨(wrap64 (x8_2 - x227002_37)), (wrap64 (x10_2 + 1)), (y233), (.slice Ao71 y233.length co71), (by first | rfl | (simp; done) | (simp [*]; done)), (by first | rfl | (simp; done) | (simp [*]; done)), H', ⟨by have := HJ10.out; have := HK2.out; have := HJ31.out; have := HJ37.out; have := HJ47.out; omega⟩, ⟨by (with_reducible repeat (first | apply Kd.R_alloc | apply Kd.R_drewN | apply Kd.R_drew)); exact Kd.R_mono (Kd.R_far (p := ⟨gb223, 2, none⟩) (Kd.R_types HO235.out BK223.out (by decide)) (fun _ hk => hk.2) (.slice Ao71 y233.length co71)) (fun _ hk => trivial)⟩, ⟨by (with_reducible repeat (first | refine blk_drewN ?_ _ | refine blk_drew ?_ | refine blk_alloc ?_ _)); refine blk_far ?_ NB214_223.out _; (with_reducible repeat (first | refine blk_drewN ?_ _ | refine blk_drew ?_ | refine blk_alloc ?_ _)); exact BK214.out⟩, ⟨by (with_reducible repeat (first | refine blk_drewN ?_ _ | refine blk_drew ?_ | refine blk_alloc ?_ _)); refine blk_put (cs := #[.string (rdOf ByteArray.empty y215 (ji4)), .string (rdOf ByteArray.empty y219 (ji7)), u224002, .int .i64 ji10]) ?_ 2 _ rfl; (with_reducible repeat (first | refine blk_drewN ?_ _ | refine blk_drew ?_ | refine blk_alloc ?_ _)); exact BK223.out⟩, ⟨by repeat (first | (with_reducible first | exact HB.out | apply below_alloc | apply pw_below_drewN | apply below_drew1 | refine below_set ?_ GE214.out | refine below_set ?_ GE223.out | refine below_set ?_ GE226.out) | exact HB.out)⟩⟩
                          · rw [if_neg c59] at H
                            have c59b0 : ((ji58) == 0) = false := beq_eq_false_iff_ne.mpr c59
                            have c59b1 : ((ji58) != 0) = true := bne_iff_ne.mpr c59
                            by_cases c73 : x224002_2.length < 3518437208883
                            rotate_left
                            · rw [if_neg c73] at H
                              exact absurd H (by simp)
                            rw [if_pos c73] at H
                            have LMc73 := Aside0.mk c73
                            clear c73
                            obtain ⟨y236, hy236⟩ : ∃ y_ : List (S41), y_ = (x224002_2 ++ [(⟨x227000_47, (⟨#[]⟩ : ByteArray), x227002_37⟩ : S41)]) := ⟨_, rfl⟩
                            replace H : (damperlaw2_Route.l0 kj47 l1 (wrap64 (x8_2 - x227002_37)) x9_10 (wrap64 (x10_2 + 1)) (rdOf ByteArray.empty y215 (ji4)) (rdOf ByteArray.empty y219 (ji7)) y236 ji10) = some (r1, r2, r3, r4) := by first | (rw [hy236]; with_reducible exact H) | (have H2_ := (Option.bind_some _ _).symm.trans H; rw [hy236]; with_reducible exact H2_) | (have H2_ := (Option.bind_some _ _).symm.trans H; with_reducible exact H2_) | with_reducible exact H | (rw [hy236]; exact H) | exact H
                            have Ny236 := Aside0.mk hy236
                            clear hy236
                            have H' := Aside0.mk H
                            clear H
                            have hnb74 := NB226_214.out
                            have hnc74 := NB214_226.out
                            have hnb75 := NB226_223.out
                            have hnc75 := NB223_226.out
                            have hcz76_0 : wc.cell? ⟨gb226, 0, none⟩ = some (.string x227000_47) := bc BK226 0
                            have hcz76_1 : wc.cell? ⟨gb226, 1, none⟩ = some (.string (⟨#[]⟩ : ByteArray)) := bc BK226 1
                            have hcz76_2 : wc.cell? ⟨gb226, 2, none⟩ = some (.int .i64 x227002_37) := bc BK226 2
                            have hfz76_0 := blk_frozen BK226.out 0
                            have hfz76_1 := blk_frozen BK226.out 1
                            have hfz76_2 := blk_frozen BK226.out 2
                            have hnb77 := NB223_214.out
                            have hnc77 := NB214_223.out
                            have hcz78_0 : wc.cell? ⟨gb223, 0, none⟩ = some (.string (rdOf ByteArray.empty y215 (ji4))) := bc BK223 0
                            have hcz78_1 : wc.cell? ⟨gb223, 1, none⟩ = some (.string (rdOf ByteArray.empty y219 (ji7))) := bc BK223 1
                            have hcz78_2 : wc.cell? ⟨gb223, 2, none⟩ = some (u224002) := bc BK223 2
                            have hcz78_3 : wc.cell? ⟨gb223, 3, none⟩ = some (.int .i64 ji10) := bc BK223 3
                            have hfz78_0 := blk_frozen BK223.out 0
                            have hfz78_1 := blk_frozen BK223.out 1
                            have hfz78_2 := blk_frozen BK223.out 2
                            have hfz78_3 := blk_frozen BK223.out 3
                            go_wp2_with (first | (go_at_call 15; refine (damperlaw2_within.keep _ _ rfl (by first | decide | assumption | exact wi_ne (by assumption) | exact wi_ne' (by assumption) | omega) _).mono ?_; rintro e w' ⟨rfl, rfl⟩) | ((with_reducible refine gate_builtin (b := .append) (xs := #[.tmp 94, .tmp 96]) rfl ?_); at_builtin; refine Kd.R_append k41 (w0 := w) w.heap.size rfl (.tmp 94) (.tmp 96) 33 41 (.agg #[(.string ⟨#[]⟩), (.string ⟨#[]⟩), (.int .i64 0)]) 40 rfl Tryd.underlying33 info41 rfl (by decide) (by omega) u224002 x224002_2 (⟨x227000_47, (⟨#[]⟩ : ByteArray), x227002_37⟩ : S41) [.string x227000_47, .string (⟨#[]⟩ : ByteArray), .int .i64 x227002_37] (fun k_ => k_ ≠ gb226) (fun _ => False) rfl rfl ?aP (fun _ hk => hk.elim) ?aF ?aO ?aB ?aS ?aL ?_; (case aP => exact k41_mkM _ _ _ (⟨x227000_47, (⟨#[]⟩ : ByteArray), x227002_37⟩ : S41)); (case aB => exact (by repeat (first | (with_reducible first | exact HB.out | apply below_alloc | apply pw_below_drewN | apply below_drew1 | refine below_set ?_ GE214.out | refine below_set ?_ GE223.out | refine below_set ?_ GE226.out) | exact HB.out))); (case aF => exact (fun k_ hk => Kd.freshB (g := gb226) (pk BK226) k_ hk)); (case aO => exact (by (with_reducible repeat (first | apply Kd.R_alloc | apply Kd.R_drewN | apply Kd.R_drew)); exact HO_224002.out)); (case aS => exact (below_size (by repeat (first | (with_reducible first | exact HB.out | apply below_alloc | apply pw_below_drewN | apply below_drew1 | refine below_set ?_ GE214.out | refine below_set ?_ GE223.out | refine below_set ?_ GE226.out) | exact HB.out)))); (case aL => have := LMc73.out; omega); intro v237 w79 ho hb hg hat; rw [← Ny236.out] at ho; have n0_ := Aside0.mk (blk_grown (g := gb214) (pk BK214) hg (Kd.R_ne HO_224002.out BK214.out (by decide))); have n1_ := Aside0.mk (blk_grown (g := gb223) (pk BK223) hg (Kd.R_ne HO_224002.out BK223.out (by decide))); have n2_ := Aside0.mk (blk_grown (g := gb226) (pk BK226) hg (Kd.R_away HO_224002.out (fun _ hk => hk))); have n3_ := Aside0.mk (hb); have n4_ := Aside0.mk (ho); clear BK214; clear BK223; clear BK226; clear HB; clear HO_224002; have BK214 := n0_; have BK223 := n1_; have BK226 := n2_; have HB := n3_; have HO238 := n4_; clear n0_ n1_ n2_ n3_ n4_; clear ho hb hg hat; obtain ⟨Ao80, co80, eo80⟩ := Kd.R_slice HO238.out; subst eo80; have hcz81_0 : w79.cell? ⟨gb223, 0, none⟩ = some (.string (rdOf ByteArray.empty y215 (ji4))) := bc BK223 0; have hcz81_1 : w79.cell? ⟨gb223, 1, none⟩ = some (.string (rdOf ByteArray.empty y219 (ji7))) := bc BK223 1; have hcz81_2 : w79.cell? ⟨gb223, 2, none⟩ = some (u224002) := bc BK223 2; have hcz81_3 : w79.cell? ⟨gb223, 3, none⟩ = some (.int .i64 ji10) := bc BK223 3; have hfz81_0 := blk_frozen BK223.out 0; have hfz81_1 := blk_frozen BK223.out 1; have hfz81_2 := blk_frozen BK223.out 2; have hfz81_3 := blk_frozen BK223.out 3))
                            go_roundg kj47
                            case measure => have := HJ10.out; have := HK2.out; have := HJ31.out; have := HJ37.out; have := HJ47.out; omega
                            case rel => exact ⟨(wrap64 (x8_2 - x227002_37)), (wrap64 (x10_2 + 1)), (y236), (.slice Ao80 y236.length co80), (by first | rfl | (simp; done) | (simp [*]; done)), (by first | rfl | (simp; done) | (simp [*]; done)), H', ⟨by have := HJ10.out; have := HK2.out; have := HJ31.out; have := HJ37.out; have := HJ47.out; omega⟩, ⟨by (with_reducible repeat (first | apply Kd.R_alloc | apply Kd.R_drewN | apply Kd.R_drew)); exact Kd.R_mono (Kd.R_far (p := ⟨gb223, 2, none⟩) (Kd.R_types HO238.out BK223.out (by decide)) (fun _ hk => hk.2) (.slice Ao80 y236.length co80)) (fun _ hk => trivial)⟩, ⟨by (with_reducible repeat (first | refine blk_drewN ?_ _ | refine blk_drew ?_ | refine blk_alloc ?_ _)); refine blk_far ?_ NB214_223.out _; (with_reducible repeat (first | refine blk_drewN ?_ _ | refine blk_drew ?_ | refine blk_alloc ?_ _)); exact BK214.out⟩, ⟨by (with_reducible repeat (first | refine blk_drewN ?_ _ | refine blk_drew ?_ | refine blk_alloc ?_ _)); refine blk_put (cs := #[.string (rdOf ByteArray.empty y215 (ji4)), .string (rdOf ByteArray.empty y219 (ji7)), u224002, .int .i64 ji10]) ?_ 2 _ rfl; (with_reducible repeat (first | refine blk_drewN ?_ _ | refine blk_drew ?_ | refine blk_alloc ?_ _)); exact BK223.out⟩, ⟨by repeat (first | (with_reducible first | exact HB.out | apply below_alloc | apply pw_below_drewN | apply below_drew1 | refine below_set ?_ GE214.out | refine below_set ?_ GE223.out | refine below_set ?_ GE226.out) | exact HB.out)⟩⟩
            · rw [if_neg c31] at H
              have c31b0 : decide (x10_2 < x9_10) = false := decide_eq_false c31
              clear c31
              simp only [Option.some.injEq, Prod.mk.injEq] at H
              obtain ⟨rfl, rfl, rfl, rfl⟩ := H
              have hnb82 := NB223_214.out
              have hnc82 := NB214_223.out
              have hcz83_0 : wr.cell? ⟨gb223, 0, none⟩ = some (.string (rdOf ByteArray.empty y215 (ji4))) := bc BK223 0
              have hcz83_1 : wr.cell? ⟨gb223, 1, none⟩ = some (.string (rdOf ByteArray.empty y219 (ji7))) := bc BK223 1
              have hcz83_2 : wr.cell? ⟨gb223, 2, none⟩ = some (u224002) := bc BK223 2
              have hcz83_3 : wr.cell? ⟨gb223, 3, none⟩ = some (.int .i64 ji10) := bc BK223 3
              have hfz83_0 := blk_frozen BK223.out 0
              have hfz83_1 := blk_frozen BK223.out 1
              have hfz83_2 := blk_frozen BK223.out 2
              have hfz83_3 := blk_frozen BK223.out 3
              have hcz84_0 : wr.cell? ⟨gb214, 0, none⟩ = some (.string (⟨#[]⟩ : ByteArray)) := bc BK214 0
              have hcz84_1 : wr.cell? ⟨gb214, 1, none⟩ = some (.string (⟨#[]⟩ : ByteArray)) := bc BK214 1
              have hcz84_2 : wr.cell? ⟨gb214, 2, none⟩ = some (.slice none 0 0) := bc BK214 2
              have hcz84_3 : wr.cell? ⟨gb214, 3, none⟩ = some (.int .i64 0) := bc BK214 3
              have hfz84_0 := blk_frozen BK214.out 0
              have hfz84_1 := blk_frozen BK214.out 1
              have hfz84_2 := blk_frozen BK214.out 2
              have hfz84_3 := blk_frozen BK214.out 3
              obtain ⟨Ao85, co85, eo85⟩ := Kd.R_slice HO_224002.out
              subst eo85
              go_wp2_with (first | (go_at_call 15; refine (damperlaw2_within.keep _ _ rfl (by first | decide | assumption | exact wi_ne (by assumption) | exact wi_ne' (by assumption) | omega) _).mono ?_; rintro e w' ⟨rfl, rfl⟩))
              refine bodyPost_ret (results_cell_row rfl _ _ gb214 35 #[.string (rdOf ByteArray.empty y215 (ji4)), .string (rdOf ByteArray.empty y219 (ji7)), .slice Ao85 x224002_2.length co85, .int .i64 ji10] (0, 0) _ rfl (by (with_reducible repeat (first | refine blk_drewN ?_ _ | refine blk_drew ?_ | refine blk_alloc ?_ _)); refine blk_put (cs := #[.string (rdOf ByteArray.empty y215 (ji4)), .string (rdOf ByteArray.empty y219 (ji7)), .slice Ao85 x224002_2.length co85, .int .i64 0]) ?_ 3 _ rfl; (with_reducible repeat (first | refine blk_drewN ?_ _ | refine blk_drew ?_ | refine blk_alloc ?_ _)); refine blk_put (cs := #[.string (rdOf ByteArray.empty y215 (ji4)), .string (rdOf ByteArray.empty y219 (ji7)), .slice none 0 0, .int .i64 0]) ?_ 2 _ rfl; (with_reducible repeat (first | refine blk_drewN ?_ _ | refine blk_drew ?_ | refine blk_alloc ?_ _)); refine blk_put (cs := #[.string (rdOf ByteArray.empty y215 (ji4)), .string (⟨#[]⟩ : ByteArray), .slice none 0 0, .int .i64 0]) ?_ 1 _ rfl; (with_reducible repeat (first | refine blk_drewN ?_ _ | refine blk_drew ?_ | refine blk_alloc ?_ _)); refine blk_put (cs := #[.string (⟨#[]⟩ : ByteArray), .string (⟨#[]⟩ : ByteArray), .slice none 0 0, .int .i64 0]) ?_ 0 _ rfl; (with_reducible repeat (first | refine blk_drewN ?_ _ | refine blk_drew ?_ | refine blk_alloc ?_ _)); exact BK214.out) Tryd.underlying35 rfl (by kernel_rfl)) rfl ?_
              exact ⟨_, by first | rfl | (simp [errW_none, errW_some] <;> rfl) | (simp only [← hji4, ← hji7, ← hji10]; first | rfl | (simp [errW_none, errW_some] <;> rfl)) | (simp [*, errW_none, errW_some] <;> rfl), by (with_reducible repeat (first | apply Kd.R_alloc | apply Kd.R_drewN | apply Kd.R_drew)); exact Kd.R_mono (Kd.R_far (p := ⟨gb214, 3, none⟩) (Kd.R_far (p := ⟨gb214, 2, none⟩) (Kd.R_far (p := ⟨gb214, 1, none⟩) (Kd.R_far (p := ⟨gb214, 0, none⟩) (Kd.R_types HO_224002.out BK214.out (by decide)) (fun _ hk => hk.2) (.string (rdOf ByteArray.empty y215 (ji4)))) (fun _ hk => hk.2) (.string (rdOf ByteArray.empty y219 (ji7)))) (fun _ hk => hk.2) (.slice Ao85 x224002_2.length co85)) (fun _ hk => hk.2) (.int .i64 ji10)) (fun _ hk => trivial), by repeat (first | (with_reducible first | exact HB.out | apply below_alloc | apply pw_below_drewN | apply below_drew1 | refine below_set ?_ GE214.out | refine below_set ?_ GE223.out) | exact HB.out)⟩
  
  intro hJ0_4_5_10_14
  refine join_ (σ := Value × Addr × Value × Addr) 2 #[true, true, true, true, true, true, true, true, true, true, true, true, true, true, false, false] (fun s_ => [(13, s_.1), (17, .string (rdOf ByteArray.empty y215 (ji4))), (18, s_.2.2.1), (23, .string (rdOf ByteArray.empty y219 (ji7))), (16, .pointer (some (s_.2.1.add ((ji4)).toNat))), (22, .pointer (some (s_.2.2.2.add ((ji7)).toNat))), (26, .agg #[.string (rdOf ByteArray.empty y215 (ji4)), .string (rdOf ByteArray.empty y219 (ji7)), .slice none 0 0, .int .i64 ji10])]) (fun s_ w' => (Kd.R Kd.string 9 w' w.heap.size (fun k_ => some k_ ≠ (s_.2.2.1 : Value).ownBlock) s_.1 y215) ∧ (Kd.R Kd.string 9 w' w.heap.size (fun k_ => some k_ ≠ (s_.1 : Value).ownBlock) s_.2.2.1 y219) ∧ (∃ c_, (s_.1 : Value) = .slice (some s_.2.1) y215.length c_) ∧ (∃ c_, (s_.2.2.1 : Value) = .slice (some s_.2.2.2) y219.length c_) ∧ (w'.heap[gb214]? = some (.cells #[.string (⟨#[]⟩ : ByteArray), .string (⟨#[]⟩ : ByteArray), .slice none 0 0, .int .i64 0] 35 (0, 0))) ∧ (Below w.heap.size w w')) ?_ ?_
  rotate_left
  · intro hJ0_4_5_10
    refine join_ (σ := Value × Addr × Value × Addr × Nat) 3 #[true, true, true, true, true, true, true, true, true, true, false, true, true, false, true, false] (fun s_ => [(13, s_.1), (17, .string (rdOf ByteArray.empty y215 (ji4))), (18, s_.2.2.1), (7, .pointer (some ⟨s_.2.2.2.2, 0, none⟩)), (16, .pointer (some (s_.2.1.add ((ji4)).toNat))), (22, .pointer (some (s_.2.2.2.1.add ((ji7)).toNat)))]) (fun s_ w' => (Kd.R Kd.string 9 w' w.heap.size (fun k_ => some k_ ≠ (s_.2.2.1 : Value).ownBlock) s_.1 y215) ∧ (Kd.R Kd.string 9 w' w.heap.size (fun k_ => some k_ ≠ (s_.1 : Value).ownBlock) s_.2.2.1 y219) ∧ (∃ c_, (s_.1 : Value) = .slice (some s_.2.1) y215.length c_) ∧ (∃ c_, (s_.2.2.1 : Value) = .slice (some s_.2.2.2.1) y219.length c_) ∧ (w'.heap[gb214]? = some (.cells #[.string (⟨#[]⟩ : ByteArray), .string (⟨#[]⟩ : ByteArray), .slice none 0 0, .int .i64 0] 35 (0, 0))) ∧ (w'.heap[s_.2.2.2.2]? = some (.cells #[.string (⟨#[]⟩ : ByteArray), .string (⟨#[]⟩ : ByteArray), .slice none 0 0, .int .i64 0] 35 (0, 0))) ∧ (w.heap.size ≤ s_.2.2.2.2) ∧ (w.heap.size ≤ s_.2.2.2.2) ∧ (gb214 ≠ s_.2.2.2.2) ∧ (s_.2.2.2.2 ≠ gb214) ∧ (Below w.heap.size w w')) ?_ ?_
    rotate_left
    · intro hJ0_4_5_14
      refine join_ (σ := Value × Addr × Value × Addr × Nat) 3 #[true, true, true, true, false, true, true, true, true, true, true, true, true, false, true, false] (fun s_ => [(13, s_.1), (18, s_.2.2.1), (23, .string (rdOf ByteArray.empty y219 (ji7))), (7, .pointer (some ⟨s_.2.2.2.2, 0, none⟩)), (16, .pointer (some (s_.2.1.add ((ji4)).toNat))), (22, .pointer (some (s_.2.2.2.1.add ((ji7)).toNat)))]) (fun s_ w' => (Kd.R Kd.string 9 w' w.heap.size (fun k_ => some k_ ≠ (s_.2.2.1 : Value).ownBlock) s_.1 y215) ∧ (Kd.R Kd.string 9 w' w.heap.size (fun k_ => some k_ ≠ (s_.1 : Value).ownBlock) s_.2.2.1 y219) ∧ (∃ c_, (s_.1 : Value) = .slice (some s_.2.1) y215.length c_) ∧ (∃ c_, (s_.2.2.1 : Value) = .slice (some s_.2.2.2.1) y219.length c_) ∧ (w'.heap[gb214]? = some (.cells #[.string (⟨#[]⟩ : ByteArray), .string (⟨#[]⟩ : ByteArray), .slice none 0 0, .int .i64 0] 35 (0, 0))) ∧ (w'.heap[s_.2.2.2.2]? = some (.cells #[.string (⟨#[]⟩ : ByteArray), .string (⟨#[]⟩ : ByteArray), .slice none 0 0, .int .i64 0] 35 (0, 0))) ∧ (w.heap.size ≤ s_.2.2.2.2) ∧ (w.heap.size ≤ s_.2.2.2.2) ∧ (gb214 ≠ s_.2.2.2.2) ∧ (s_.2.2.2.2 ≠ gb214) ∧ (Below w.heap.size w w')) ?_ ?_
      rotate_left
      · intro hJ0_5_10_14
        refine join_ (σ := Value × Addr × Value × Addr) 4 #[true, true, true, true, true, true, true, true, true, true, false, true, true, false, false, false] (fun s_ => [(13, s_.1), (17, .string (rdOf ByteArray.empty y215 (ji4))), (18, s_.2.2.1), (16, .pointer (some (s_.2.1.add ((ji4)).toNat))), (22, .pointer (some (s_.2.2.2.add ((ji7)).toNat)))]) (fun s_ w' => (Kd.R Kd.string 9 w' w.heap.size (fun k_ => some k_ ≠ (s_.2.2.1 : Value).ownBlock) s_.1 y215) ∧ (Kd.R Kd.string 9 w' w.heap.size (fun k_ => some k_ ≠ (s_.1 : Value).ownBlock) s_.2.2.1 y219) ∧ (∃ c_, (s_.1 : Value) = .slice (some s_.2.1) y215.length c_) ∧ (∃ c_, (s_.2.2.1 : Value) = .slice (some s_.2.2.2) y219.length c_) ∧ (w'.heap[gb214]? = some (.cells #[.string (⟨#[]⟩ : ByteArray), .string (⟨#[]⟩ : ByteArray), .slice none 0 0, .int .i64 0] 35 (0, 0))) ∧ (Below w.heap.size w w')) ?_ ?_
        rotate_left
        · intro hJ0_4_5
          refine join_ (σ := Value × Addr × Nat) 5 #[true, true, true, true, true, false, true, true, true, false, false, true, true, false, true, false] (fun s_ => [(13, s_.1), (17, .string (rdOf ByteArray.empty y215 (ji4))), (7, .pointer (some ⟨s_.2.2, 0, none⟩)), (16, .pointer (some (s_.2.1.add ((ji4)).toNat)))]) (fun s_ w' => (Kd.R Kd.string 9 w' w.heap.size (fun _ => True) s_.1 y215) ∧ (∃ c_, (s_.1 : Value) = .slice (some s_.2.1) y215.length c_) ∧ (w'.heap[gb214]? = some (.cells #[.string (⟨#[]⟩ : ByteArray), .string (⟨#[]⟩ : ByteArray), .slice none 0 0, .int .i64 0] 35 (0, 0))) ∧ (w'.heap[s_.2.2]? = some (.cells #[.string (⟨#[]⟩ : ByteArray), .string (⟨#[]⟩ : ByteArray), .slice none 0 0, .int .i64 0] 35 (0, 0))) ∧ (w.heap.size ≤ s_.2.2) ∧ (w.heap.size ≤ s_.2.2) ∧ (gb214 ≠ s_.2.2) ∧ (s_.2.2 ≠ gb214) ∧ (Below w.heap.size w w')) ?_ ?_
          rotate_left
          · intro hJ0_4_14
            refine join_ (σ := Value × Addr × Value × Addr) 4 #[true, true, true, true, false, true, true, true, true, true, true, true, true, false, false, false] (fun s_ => [(13, s_.1), (18, s_.2.2.1), (23, .string (rdOf ByteArray.empty y219 (ji7))), (16, .pointer (some (s_.2.1.add ((ji4)).toNat))), (22, .pointer (some (s_.2.2.2.add ((ji7)).toNat)))]) (fun s_ w' => (Kd.R Kd.string 9 w' w.heap.size (fun k_ => some k_ ≠ (s_.2.2.1 : Value).ownBlock) s_.1 y215) ∧ (Kd.R Kd.string 9 w' w.heap.size (fun k_ => some k_ ≠ (s_.1 : Value).ownBlock) s_.2.2.1 y219) ∧ (∃ c_, (s_.1 : Value) = .slice (some s_.2.1) y215.length c_) ∧ (∃ c_, (s_.2.2.1 : Value) = .slice (some s_.2.2.2) y219.length c_) ∧ (w'.heap[gb214]? = some (.cells #[.string (⟨#[]⟩ : ByteArray), .string (⟨#[]⟩ : ByteArray), .slice none 0 0, .int .i64 0] 35 (0, 0))) ∧ (Below w.heap.size w w')) ?_ ?_
            rotate_left
            · intro hJ0_5_10
              refine join_ (σ := Value × Addr × Value × Addr × Nat) 4 #[true, true, true, true, false, true, true, true, true, true, false, true, true, false, true, false] (fun s_ => [(13, s_.1), (18, s_.2.2.1), (7, .pointer (some ⟨s_.2.2.2.2, 0, none⟩)), (16, .pointer (some (s_.2.1.add ((ji4)).toNat))), (22, .pointer (some (s_.2.2.2.1.add ((ji7)).toNat)))]) (fun s_ w' => (Kd.R Kd.string 9 w' w.heap.size (fun k_ => some k_ ≠ (s_.2.2.1 : Value).ownBlock) s_.1 y215) ∧ (Kd.R Kd.string 9 w' w.heap.size (fun k_ => some k_ ≠ (s_.1 : Value).ownBlock) s_.2.2.1 y219) ∧ (∃ c_, (s_.1 : Value) = .slice (some s_.2.1) y215.length c_) ∧ (∃ c_, (s_.2.2.1 : Value) = .slice (some s_.2.2.2.1) y219.length c_) ∧ (w'.heap[gb214]? = some (.cells #[.string (⟨#[]⟩ : ByteArray), .string (⟨#[]⟩ : ByteArray), .slice none 0 0, .int .i64 0] 35 (0, 0))) ∧ (w'.heap[s_.2.2.2.2]? = some (.cells #[.string (⟨#[]⟩ : ByteArray), .string (⟨#[]⟩ : ByteArray), .slice none 0 0, .int .i64 0] 35 (0, 0))) ∧ (w.heap.size ≤ s_.2.2.2.2) ∧ (w.heap.size ≤ s_.2.2.2.2) ∧ (gb214 ≠ s_.2.2.2.2) ∧ (s_.2.2.2.2 ≠ gb214) ∧ (Below w.heap.size w w')) ?_ ?_
              rotate_left
              · intro hJ0_5_14
                refine join_ (σ := Value × Addr × Nat) 5 #[false, true, true, false, false, true, true, true, true, true, true, true, true, false, true, false] (fun s_ => [(18, s_.1), (23, .string (rdOf ByteArray.empty y219 (ji7))), (7, .pointer (some ⟨s_.2.2, 0, none⟩)), (22, .pointer (some (s_.2.1.add ((ji7)).toNat)))]) (fun s_ w' => (Kd.R Kd.string 9 w' w.heap.size (fun _ => True) s_.1 y219) ∧ (∃ c_, (s_.1 : Value) = .slice (some s_.2.1) y219.length c_) ∧ (w'.heap[gb214]? = some (.cells #[.string (⟨#[]⟩ : ByteArray), .string (⟨#[]⟩ : ByteArray), .slice none 0 0, .int .i64 0] 35 (0, 0))) ∧ (w'.heap[s_.2.2]? = some (.cells #[.string (⟨#[]⟩ : ByteArray), .string (⟨#[]⟩ : ByteArray), .slice none 0 0, .int .i64 0] 35 (0, 0))) ∧ (w.heap.size ≤ s_.2.2) ∧ (w.heap.size ≤ s_.2.2) ∧ (gb214 ≠ s_.2.2) ∧ (s_.2.2 ≠ gb214) ∧ (Below w.heap.size w w')) ?_ ?_
                rotate_left
                · intro hJ5_10_14
                  refine join_ (σ := Value × Addr) 6 #[true, true, true, true, true, false, true, true, true, false, false, true, true, false, false, false] (fun s_ => [(13, s_.1), (17, .string (rdOf ByteArray.empty y215 (ji4))), (16, .pointer (some (s_.2.add ((ji4)).toNat)))]) (fun s_ w' => (Kd.R Kd.string 9 w' w.heap.size (fun _ => True) s_.1 y215) ∧ (∃ c_, (s_.1 : Value) = .slice (some s_.2) y215.length c_) ∧ (w'.heap[gb214]? = some (.cells #[.string (⟨#[]⟩ : ByteArray), .string (⟨#[]⟩ : ByteArray), .slice none 0 0, .int .i64 0] 35 (0, 0))) ∧ (Below w.heap.size w w')) ?_ ?_
                  rotate_left
                  · intro hJ0_4
                    refine join_ (σ := Value × Addr × Value × Addr) 5 #[true, true, true, true, false, true, true, true, true, true, false, true, true, false, false, false] (fun s_ => [(13, s_.1), (18, s_.2.2.1), (16, .pointer (some (s_.2.1.add ((ji4)).toNat))), (22, .pointer (some (s_.2.2.2.add ((ji7)).toNat)))]) (fun s_ w' => (Kd.R Kd.string 9 w' w.heap.size (fun k_ => some k_ ≠ (s_.2.2.1 : Value).ownBlock) s_.1 y215) ∧ (Kd.R Kd.string 9 w' w.heap.size (fun k_ => some k_ ≠ (s_.1 : Value).ownBlock) s_.2.2.1 y219) ∧ (∃ c_, (s_.1 : Value) = .slice (some s_.2.1) y215.length c_) ∧ (∃ c_, (s_.2.2.1 : Value) = .slice (some s_.2.2.2) y219.length c_) ∧ (w'.heap[gb214]? = some (.cells #[.string (⟨#[]⟩ : ByteArray), .string (⟨#[]⟩ : ByteArray), .slice none 0 0, .int .i64 0] 35 (0, 0))) ∧ (Below w.heap.size w w')) ?_ ?_
                    rotate_left
                    · intro hJ0_5
                      refine join_ (σ := Value × Addr × Nat) 6 #[true, true, true, true, false, false, true, true, true, false, false, true, true, false, true, false] (fun s_ => [(13, s_.1), (7, .pointer (some ⟨s_.2.2, 0, none⟩)), (16, .pointer (some (s_.2.1.add ((ji4)).toNat)))]) (fun s_ w' => (Kd.R Kd.string 9 w' w.heap.size (fun _ => True) s_.1 y215) ∧ (∃ c_, (s_.1 : Value) = .slice (some s_.2.1) y215.length c_) ∧ (w'.heap[gb214]? = some (.cells #[.string (⟨#[]⟩ : ByteArray), .string (⟨#[]⟩ : ByteArray), .slice none 0 0, .int .i64 0] 35 (0, 0))) ∧ (w'.heap[s_.2.2]? = some (.cells #[.string (⟨#[]⟩ : ByteArray), .string (⟨#[]⟩ : ByteArray), .slice none 0 0, .int .i64 0] 35 (0, 0))) ∧ (w.heap.size ≤ s_.2.2) ∧ (w.heap.size ≤ s_.2.2) ∧ (gb214 ≠ s_.2.2) ∧ (s_.2.2 ≠ gb214) ∧ (Below w.heap.size w w')) ?_ ?_
                      rotate_left
                      · intro hJ0_14
                        refine join_ (σ := Value × Addr) 6 #[false, true, true, false, false, true, true, true, true, true, true, true, true, false, false, false] (fun s_ => [(18, s_.1), (23, .string (rdOf ByteArray.empty y219 (ji7))), (22, .pointer (some (s_.2.add ((ji7)).toNat)))]) (fun s_ w' => (Kd.R Kd.string 9 w' w.heap.size (fun _ => True) s_.1 y219) ∧ (∃ c_, (s_.1 : Value) = .slice (some s_.2) y219.length c_) ∧ (w'.heap[gb214]? = some (.cells #[.string (⟨#[]⟩ : ByteArray), .string (⟨#[]⟩ : ByteArray), .slice none 0 0, .int .i64 0] 35 (0, 0))) ∧ (Below w.heap.size w w')) ?_ ?_
                        rotate_left
                        · intro hJ5_10
                          refine join_ (σ := Value × Addr × Nat) 6 #[false, true, true, false, false, true, true, true, true, true, false, true, true, false, true, false] (fun s_ => [(18, s_.1), (7, .pointer (some ⟨s_.2.2, 0, none⟩)), (22, .pointer (some (s_.2.1.add ((ji7)).toNat)))]) (fun s_ w' => (Kd.R Kd.string 9 w' w.heap.size (fun _ => True) s_.1 y219) ∧ (∃ c_, (s_.1 : Value) = .slice (some s_.2.1) y219.length c_) ∧ (w'.heap[gb214]? = some (.cells #[.string (⟨#[]⟩ : ByteArray), .string (⟨#[]⟩ : ByteArray), .slice none 0 0, .int .i64 0] 35 (0, 0))) ∧ (w'.heap[s_.2.2]? = some (.cells #[.string (⟨#[]⟩ : ByteArray), .string (⟨#[]⟩ : ByteArray), .slice none 0 0, .int .i64 0] 35 (0, 0))) ∧ (w.heap.size ≤ s_.2.2) ∧ (w.heap.size ≤ s_.2.2) ∧ (gb214 ≠ s_.2.2) ∧ (s_.2.2 ≠ gb214) ∧ (Below w.heap.size w w')) ?_ ?_
                          rotate_left
                          · intro hJ5_14
                            refine join_ (σ := Value × Addr) 7 #[true, true, true, true, false, false, true, true, true, false, false, true, true, false, false, false] (fun s_ => [(13, s_.1), (16, .pointer (some (s_.2.add ((ji4)).toNat)))]) (fun s_ w' => (Kd.R Kd.string 9 w' w.heap.size (fun _ => True) s_.1 y215) ∧ (∃ c_, (s_.1 : Value) = .slice (some s_.2) y215.length c_) ∧ (w'.heap[gb214]? = some (.cells #[.string (⟨#[]⟩ : ByteArray), .string (⟨#[]⟩ : ByteArray), .slice none 0 0, .int .i64 0] 35 (0, 0))) ∧ (Below w.heap.size w w')) ?_ ?_
                            rotate_left
                            · intro hJ0
                              refine join_ (σ := Value × Addr) 7 #[false, true, true, false, false, true, true, true, true, true, false, true, true, false, false, false] (fun s_ => [(18, s_.1), (22, .pointer (some (s_.2.add ((ji7)).toNat)))]) (fun s_ w' => (Kd.R Kd.string 9 w' w.heap.size (fun _ => True) s_.1 y219) ∧ (∃ c_, (s_.1 : Value) = .slice (some s_.2) y219.length c_) ∧ (w'.heap[gb214]? = some (.cells #[.string (⟨#[]⟩ : ByteArray), .string (⟨#[]⟩ : ByteArray), .slice none 0 0, .int .i64 0] 35 (0, 0))) ∧ (Below w.heap.size w w')) ?_ ?_
                              rotate_left
                              · intro hJ5
                                refine join_ (σ := Nat) 8 #[false, true, true, false, false, false, true, true, true, false, false, true, true, false, true, false] (fun s_ => [(7, .pointer (some ⟨s_, 0, none⟩))]) (fun s_ w' => (w'.heap[gb214]? = some (.cells #[.string (⟨#[]⟩ : ByteArray), .string (⟨#[]⟩ : ByteArray), .slice none 0 0, .int .i64 0] 35 (0, 0))) ∧ (w'.heap[s_]? = some (.cells #[.string (⟨#[]⟩ : ByteArray), .string (⟨#[]⟩ : ByteArray), .slice none 0 0, .int .i64 0] 35 (0, 0))) ∧ (w.heap.size ≤ s_) ∧ (w.heap.size ≤ s_) ∧ (gb214 ≠ s_) ∧ (s_ ≠ gb214) ∧ (Below w.heap.size w w')) ?_ ?_
                                rotate_left
                                · intro hJ14
                                  refine three_ (i := 0) (j := 5) (k := 14) (Ni := some 13) (Nj := some 18) (Nk := some 7) #[true, true, true, false, false, false, true, true, true, false, false, true, true, false, false, false] #[false, true, true, false, false, true, true, true, true, false, false, true, true, false, false, false] #[false, true, true, false, false, false, true, true, true, false, false, true, true, false, true, false] rfl rfl rfl rfl rfl rfl (three_of HT_.out (by kernel_rfl)) (by decide) (by decide) (by decide) (fun K hK => ?_) (fun K hK => ?_) (fun K hK => ?_)
                                  · skip
                                    refine Kd.R_lit_step Kd.string _ 9 ?hg (N := 13) ?hd (xs := ([(⟨#[102, 114, 111, 110, 116]⟩ : ByteArray), (⟨#[98, 97, 99, 107]⟩ : ByteArray), (⟨#[114, 45, 49]⟩ : ByteArray)] : List ByteArray)) (inner := [.string (⟨#[102, 114, 111, 110, 116]⟩ : ByteArray), .string (⟨#[98, 97, 99, 107]⟩ : ByteArray), .string (⟨#[114, 45, 49]⟩ : ByteArray)]) (ok := fun _ => True) (okp := fun _ => True) ?hr ?hp (fun _ hk => hk) trivial (Below.refl _ _) (Nat.le_refl _) (by simp) ?_; (case hd => rfl); (case hg => rfl); (case hr => first | (go_simp; done) | (go_simp; rfl)); (case hp => exact (Reps.one (show Kd.M Kd.string _ _ _ (⟨#[102, 114, 111, 110, 116]⟩ : ByteArray) [.string (⟨#[102, 114, 111, 110, 116]⟩ : ByteArray)] from rfl) (Reps.one (show Kd.M Kd.string _ _ _ (⟨#[98, 97, 99, 107]⟩ : ByteArray) [.string (⟨#[98, 97, 99, 107]⟩ : ByteArray)] from rfl) (Reps.one (show Kd.M Kd.string _ _ _ (⟨#[114, 45, 49]⟩ : ByteArray) [.string (⟨#[114, 45, 49]⟩ : ByteArray)] from rfl) (Reps.none _ _)))))
                                    intro v216 w14 ho15 hb hg_ hnew_
                                    clear hg_ hnew_
                                    (first | rw [← Ny215.out] at ho15 | (simp only [Int.reduceToNat] at ho15; rw [← Ny215.out] at ho15))
                                    have HO217 := Aside0.mk (Kd.R_lower ho15 (below_size (by repeat (first | (with_reducible first | exact HB.out | apply below_alloc | apply pw_below_drewN | apply below_drew1 | refine below_set ?_ GE214.out) | exact HB.out))))
                                    replace BK214 := Aside0.mk (blk_below (g := gb214) (pk BK214) hb)
                                    replace HB := Aside0.mk (below_step (by repeat (first | (with_reducible first | exact HB.out | apply below_alloc | apply pw_below_drewN | apply below_drew1 | refine below_set ?_ GE214.out) | exact HB.out)) hb)
                                    clear hb ho15
                                    obtain ⟨Ao16, co16, eo16⟩ := Kd.R_slice HO217.out
                                    subst eo16
                                    obtain ⟨ado16, fo16, _⟩ := Kd.at_string (Kd.R_reads' HO217.out).2.2 0 (by decide) (by rw [Ny215.out]; simp)
                                    cases fo16
                                    refine hK.out _ _ trivial (fun hHeld => ?_)
                                    clear hK K
                                    refine norm_ (a' := ?_) ?_ ?_
                                    rotate_left
                                    · show Act.put _ (some 13) _ = _
                                      simp only [Act.put, List.setIfInBounds_toArray, List.set_cons_zero, List.set_cons_succ, i64_w, i32_w]
                                      rfl
                                    refine pure_ (i := 3) (N := some 16) (v := ?_) (a' := ?_) #[true, true, true, true, false, false, true, true, true, false, false, true, true, false, false, false] rfl rfl (any_of HT_.out (by kernel_rfl)) (fun _ _ _ h => h) (Or.inl ⟨by rfl, ?_⟩) ?_ ?_
                                    rotate_left
                                    · intro w'
                                      go_simp
                                      with_reducible rfl
                                    rotate_left
                                    · simp only [Act.put, List.setIfInBounds_toArray, List.set_cons_zero, List.set_cons_succ, i64_w, i32_w]
                                      rfl
                                    exact norm0_ (hJ0 (.slice (some ado16) y215.length co16, ado16) _ ⟨(by (with_reducible repeat (first | apply Kd.R_alloc | apply Kd.R_drewN | apply Kd.R_drew)); exact HO217.out), ⟨_, rfl⟩, (pk BK214), (by repeat (first | (with_reducible first | exact HB.out | apply below_alloc | apply pw_below_drewN | apply below_drew1 | refine below_set ?_ GE214.out) | exact HB.out))⟩)
                                  · skip
                                    refine Kd.R_lit_step Kd.string _ 9 ?hg (N := 18) ?hd (xs := ([(⟨#[119, 101, 98]⟩ : ByteArray), (⟨#[97, 112, 105]⟩ : ByteArray), (⟨#[97, 45, 98]⟩ : ByteArray)] : List ByteArray)) (inner := [.string (⟨#[119, 101, 98]⟩ : ByteArray), .string (⟨#[97, 112, 105]⟩ : ByteArray), .string (⟨#[97, 45, 98]⟩ : ByteArray)]) (ok := fun _ => True) (okp := fun _ => True) ?hr ?hp (fun _ hk => hk) trivial (Below.refl _ _) (Nat.le_refl _) (by simp) ?_; (case hd => rfl); (case hg => rfl); (case hr => first | (go_simp; done) | (go_simp; rfl)); (case hp => exact (Reps.one (show Kd.M Kd.string _ _ _ (⟨#[119, 101, 98]⟩ : ByteArray) [.string (⟨#[119, 101, 98]⟩ : ByteArray)] from rfl) (Reps.one (show Kd.M Kd.string _ _ _ (⟨#[97, 112, 105]⟩ : ByteArray) [.string (⟨#[97, 112, 105]⟩ : ByteArray)] from rfl) (Reps.one (show Kd.M Kd.string _ _ _ (⟨#[97, 45, 98]⟩ : ByteArray) [.string (⟨#[97, 45, 98]⟩ : ByteArray)] from rfl) (Reps.none _ _)))))
                                    intro v220 w14 ho15 hb hg_ hnew_
                                    clear hg_ hnew_
                                    (first | rw [← Ny219.out] at ho15 | (simp only [Int.reduceToNat] at ho15; rw [← Ny219.out] at ho15))
                                    have HO221 := Aside0.mk (Kd.R_lower ho15 (below_size (by repeat (first | (with_reducible first | exact HB.out | apply below_alloc | apply pw_below_drewN | apply below_drew1 | refine below_set ?_ GE214.out) | exact HB.out))))
                                    replace BK214 := Aside0.mk (blk_below (g := gb214) (pk BK214) hb)
                                    replace HB := Aside0.mk (below_step (by repeat (first | (with_reducible first | exact HB.out | apply below_alloc | apply pw_below_drewN | apply below_drew1 | refine below_set ?_ GE214.out) | exact HB.out)) hb)
                                    clear hb ho15
                                    obtain ⟨Ao16, co16, eo16⟩ := Kd.R_slice HO221.out
                                    subst eo16
                                    obtain ⟨ado16, fo16, _⟩ := Kd.at_string (Kd.R_reads' HO221.out).2.2 0 (by decide) (by rw [Ny219.out]; simp)
                                    cases fo16
                                    refine hK.out _ _ trivial (fun hHeld => ?_)
                                    clear hK K
                                    refine norm_ (a' := ?_) ?_ ?_
                                    rotate_left
                                    · show Act.put _ (some 18) _ = _
                                      simp only [Act.put, List.setIfInBounds_toArray, List.set_cons_zero, List.set_cons_succ, i64_w, i32_w]
                                      rfl
                                    refine pure_ (i := 9) (N := some 22) (v := ?_) (a' := ?_) #[false, true, true, false, false, true, true, true, true, true, false, true, true, false, false, false] rfl rfl (any_of HT_.out (by kernel_rfl)) (fun _ _ _ h => h) (Or.inl ⟨by rfl, ?_⟩) ?_ ?_
                                    rotate_left
                                    · intro w'
                                      go_simp
                                      with_reducible rfl
                                    rotate_left
                                    · simp only [Act.put, List.setIfInBounds_toArray, List.set_cons_zero, List.set_cons_succ, i64_w, i32_w]
                                      rfl
                                    exact norm0_ (hJ5 (.slice (some ado16) y219.length co16, ado16) _ ⟨(by (with_reducible repeat (first | apply Kd.R_alloc | apply Kd.R_drewN | apply Kd.R_drew)); exact HO221.out), ⟨_, rfl⟩, (pk BK214), (by repeat (first | (with_reducible first | exact HB.out | apply below_alloc | apply pw_below_drewN | apply below_drew1 | refine below_set ?_ GE214.out) | exact HB.out))⟩)
                                  · skip
                                    refine box_step ?hg (N := 7) ?hd (cs := #[.string (⟨#[]⟩ : ByteArray), .string (⟨#[]⟩ : ByteArray), .slice none 0 0, .int .i64 0]) (t := 35) ?hr ?_; (case hd => rfl); (case hg => rfl); (case hr => first | (go_simp; done) | (go_simp; rfl))
                                    intro gb223 hg w14 hbox hb
                                    have BK223 := Aside0.mk (hbox)
                                    have GW223 := Aside0.mk ((by rw [hg]; exact (below_size (by repeat (first | (with_reducible first | exact HB.out | apply below_alloc | apply pw_below_drewN | apply below_drew1 | refine below_set ?_ GE214.out) | exact HB.out))) : w.heap.size ≤ gb223))
                                    have GE223 := GW223
                                    have NB214_223 := Aside0.mk ((ne_lt hg (pk BK214) : gb214 ≠ gb223))
                                    have NB223_214 := Aside0.mk ((ne_gt hg (pk BK214) : gb223 ≠ gb214))
                                    replace BK214 := Aside0.mk (blk_below (g := gb214) (pk BK214) hb)
                                    replace HB := Aside0.mk (below_step (by repeat (first | (with_reducible first | exact HB.out | apply below_alloc | apply pw_below_drewN | apply below_drew1 | refine below_set ?_ GE214.out) | exact HB.out)) hb)
                                    clear hb hbox hg
                                    refine hK.out _ _ trivial (fun hHeld => ?_)
                                    clear hK K
                                    refine norm_ (a' := ?_) ?_ ?_
                                    rotate_left
                                    · show Act.put _ (some 7) _ = _
                                      simp only [Act.put, List.setIfInBounds_toArray, List.set_cons_zero, List.set_cons_succ, i64_w, i32_w]
                                      rfl
                                    exact norm0_ (hJ14 (gb223) _ ⟨(pk BK214), (pk BK223), GW223.out, GE223.out, NB214_223.out, NB223_214.out, (by repeat (first | (with_reducible first | exact HB.out | apply below_alloc | apply pw_below_drewN | apply below_drew1 | refine below_set ?_ GE214.out | refine below_set ?_ GE223.out) | exact HB.out))⟩)
                                · skip
                                  rintro gb223 w15 ⟨h0_, h1_, h2_, h3_, h4_, h5_, h6_⟩
                                  have BK223 := Aside0.mk h1_
                                  have GW223 : Aside0 (w.heap.size ≤ gb223) := ⟨h2_⟩
                                  have GE223 : Aside0 (w.heap.size ≤ gb223) := ⟨h3_⟩
                                  have NB214_223 : Aside0 (gb214 ≠ gb223) := ⟨h4_⟩
                                  have NB223_214 : Aside0 (gb223 ≠ gb214) := ⟨h5_⟩
                                  replace BK214 := Aside0.mk h0_
                                  replace HB : Aside0 (Below w.heap.size w w15) := ⟨h6_⟩
                                  clear h0_ h1_ h2_ h3_ h4_ h5_ h6_
                                  have hHeld := trivial
                                  refine norm_ (a' := ?_) ?_ ?_
                                  rotate_left
                                  · simp only [putAll, Act.put, List.setIfInBounds_toArray, List.set_cons_zero, List.set_cons_succ]
                                    rfl
                                  refine two_ (i := 0) (j := 5) (Ni := some 13) (Nj := some 18) #[true, true, true, false, false, false, true, true, true, false, false, true, true, false, true, false] #[false, true, true, false, false, true, true, true, true, false, false, true, true, false, true, false] rfl rfl rfl rfl (two_of HT_.out (by kernel_rfl)) (by decide) (by decide) (fun K hK => ?_) (fun K hK => ?_)
                                  · skip
                                    refine Kd.R_lit_step Kd.string _ 9 ?hg (N := 13) ?hd (xs := ([(⟨#[102, 114, 111, 110, 116]⟩ : ByteArray), (⟨#[98, 97, 99, 107]⟩ : ByteArray), (⟨#[114, 45, 49]⟩ : ByteArray)] : List ByteArray)) (inner := [.string (⟨#[102, 114, 111, 110, 116]⟩ : ByteArray), .string (⟨#[98, 97, 99, 107]⟩ : ByteArray), .string (⟨#[114, 45, 49]⟩ : ByteArray)]) (ok := fun _ => True) (okp := fun _ => True) ?hr ?hp (fun _ hk => hk) trivial (Below.refl _ _) (Nat.le_refl _) (by simp) ?_; (case hd => rfl); (case hg => rfl); (case hr => first | (go_simp; done) | (go_simp; rfl)); (case hp => exact (Reps.one (show Kd.M Kd.string _ _ _ (⟨#[102, 114, 111, 110, 116]⟩ : ByteArray) [.string (⟨#[102, 114, 111, 110, 116]⟩ : ByteArray)] from rfl) (Reps.one (show Kd.M Kd.string _ _ _ (⟨#[98, 97, 99, 107]⟩ : ByteArray) [.string (⟨#[98, 97, 99, 107]⟩ : ByteArray)] from rfl) (Reps.one (show Kd.M Kd.string _ _ _ (⟨#[114, 45, 49]⟩ : ByteArray) [.string (⟨#[114, 45, 49]⟩ : ByteArray)] from rfl) (Reps.none _ _)))))
                                    intro v216 w16 ho17 hb hg_ hnew_
                                    clear hg_ hnew_
                                    (first | rw [← Ny215.out] at ho17 | (simp only [Int.reduceToNat] at ho17; rw [← Ny215.out] at ho17))
                                    have HO217 := Aside0.mk (Kd.R_lower ho17 (below_size (by repeat (first | (with_reducible first | exact HB.out | apply below_alloc | apply pw_below_drewN | apply below_drew1 | refine below_set ?_ GE214.out | refine below_set ?_ GE223.out) | exact HB.out))))
                                    replace BK214 := Aside0.mk (blk_below (g := gb214) (pk BK214) hb)
                                    replace BK223 := Aside0.mk (blk_below (g := gb223) (pk BK223) hb)
                                    replace HB := Aside0.mk (below_step (by repeat (first | (with_reducible first | exact HB.out | apply below_alloc | apply pw_below_drewN | apply below_drew1 | refine below_set ?_ GE214.out | refine below_set ?_ GE223.out) | exact HB.out)) hb)
                                    clear hb ho17
                                    obtain ⟨Ao18, co18, eo18⟩ := Kd.R_slice HO217.out
                                    subst eo18
                                    obtain ⟨ado18, fo18, _⟩ := Kd.at_string (Kd.R_reads' HO217.out).2.2 0 (by decide) (by rw [Ny215.out]; simp)
                                    cases fo18
                                    refine hK.out _ _ trivial (fun hHeld => ?_)
                                    clear hK K
                                    refine norm_ (a' := ?_) ?_ ?_
                                    rotate_left
                                    · show Act.put _ (some 13) _ = _
                                      simp only [Act.put, List.setIfInBounds_toArray, List.set_cons_zero, List.set_cons_succ, i64_w, i32_w]
                                      rfl
                                    refine pure_ (i := 3) (N := some 16) (v := ?_) (a' := ?_) #[true, true, true, true, false, false, true, true, true, false, false, true, true, false, true, false] rfl rfl (any_of HT_.out (by kernel_rfl)) (fun _ _ _ h => h) (Or.inl ⟨by rfl, ?_⟩) ?_ ?_
                                    rotate_left
                                    · intro w'
                                      go_simp
                                      with_reducible rfl
                                    rotate_left
                                    · simp only [Act.put, List.setIfInBounds_toArray, List.set_cons_zero, List.set_cons_succ, i64_w, i32_w]
                                      rfl
                                    exact norm0_ (hJ0_14 (.slice (some ado18) y215.length co18, ado18, gb223) _ ⟨(by (with_reducible repeat (first | apply Kd.R_alloc | apply Kd.R_drewN | apply Kd.R_drew)); exact HO217.out), ⟨_, rfl⟩, (pk BK214), (pk BK223), GW223.out, GE223.out, NB214_223.out, NB223_214.out, (by repeat (first | (with_reducible first | exact HB.out | apply below_alloc | apply pw_below_drewN | apply below_drew1 | refine below_set ?_ GE214.out | refine below_set ?_ GE223.out) | exact HB.out))⟩)
                                  · skip
                                    refine Kd.R_lit_step Kd.string _ 9 ?hg (N := 18) ?hd (xs := ([(⟨#[119, 101, 98]⟩ : ByteArray), (⟨#[97, 112, 105]⟩ : ByteArray), (⟨#[97, 45, 98]⟩ : ByteArray)] : List ByteArray)) (inner := [.string (⟨#[119, 101, 98]⟩ : ByteArray), .string (⟨#[97, 112, 105]⟩ : ByteArray), .string (⟨#[97, 45, 98]⟩ : ByteArray)]) (ok := fun _ => True) (okp := fun _ => True) ?hr ?hp (fun _ hk => hk) trivial (Below.refl _ _) (Nat.le_refl _) (by simp) ?_; (case hd => rfl); (case hg => rfl); (case hr => first | (go_simp; done) | (go_simp; rfl)); (case hp => exact (Reps.one (show Kd.M Kd.string _ _ _ (⟨#[119, 101, 98]⟩ : ByteArray) [.string (⟨#[119, 101, 98]⟩ : ByteArray)] from rfl) (Reps.one (show Kd.M Kd.string _ _ _ (⟨#[97, 112, 105]⟩ : ByteArray) [.string (⟨#[97, 112, 105]⟩ : ByteArray)] from rfl) (Reps.one (show Kd.M Kd.string _ _ _ (⟨#[97, 45, 98]⟩ : ByteArray) [.string (⟨#[97, 45, 98]⟩ : ByteArray)] from rfl) (Reps.none _ _)))))
                                    intro v220 w16 ho17 hb hg_ hnew_
                                    clear hg_ hnew_
                                    (first | rw [← Ny219.out] at ho17 | (simp only [Int.reduceToNat] at ho17; rw [← Ny219.out] at ho17))
                                    have HO221 := Aside0.mk (Kd.R_lower ho17 (below_size (by repeat (first | (with_reducible first | exact HB.out | apply below_alloc | apply pw_below_drewN | apply below_drew1 | refine below_set ?_ GE214.out | refine below_set ?_ GE223.out) | exact HB.out))))
                                    replace BK214 := Aside0.mk (blk_below (g := gb214) (pk BK214) hb)
                                    replace BK223 := Aside0.mk (blk_below (g := gb223) (pk BK223) hb)
                                    replace HB := Aside0.mk (below_step (by repeat (first | (with_reducible first | exact HB.out | apply below_alloc | apply pw_below_drewN | apply below_drew1 | refine below_set ?_ GE214.out | refine below_set ?_ GE223.out) | exact HB.out)) hb)
                                    clear hb ho17
                                    obtain ⟨Ao18, co18, eo18⟩ := Kd.R_slice HO221.out
                                    subst eo18
                                    obtain ⟨ado18, fo18, _⟩ := Kd.at_string (Kd.R_reads' HO221.out).2.2 0 (by decide) (by rw [Ny219.out]; simp)
                                    cases fo18
                                    refine hK.out _ _ trivial (fun hHeld => ?_)
                                    clear hK K
                                    refine norm_ (a' := ?_) ?_ ?_
                                    rotate_left
                                    · show Act.put _ (some 18) _ = _
                                      simp only [Act.put, List.setIfInBounds_toArray, List.set_cons_zero, List.set_cons_succ, i64_w, i32_w]
                                      rfl
                                    refine pure_ (i := 9) (N := some 22) (v := ?_) (a' := ?_) #[false, true, true, false, false, true, true, true, true, true, false, true, true, false, true, false] rfl rfl (any_of HT_.out (by kernel_rfl)) (fun _ _ _ h => h) (Or.inl ⟨by rfl, ?_⟩) ?_ ?_
                                    rotate_left
                                    · intro w'
                                      go_simp
                                      with_reducible rfl
                                    rotate_left
                                    · simp only [Act.put, List.setIfInBounds_toArray, List.set_cons_zero, List.set_cons_succ, i64_w, i32_w]
                                      rfl
                                    exact norm0_ (hJ5_14 (.slice (some ado18) y219.length co18, ado18, gb223) _ ⟨(by (with_reducible repeat (first | apply Kd.R_alloc | apply Kd.R_drewN | apply Kd.R_drew)); exact HO221.out), ⟨_, rfl⟩, (pk BK214), (pk BK223), GW223.out, GE223.out, NB214_223.out, NB223_214.out, (by repeat (first | (with_reducible first | exact HB.out | apply below_alloc | apply pw_below_drewN | apply below_drew1 | refine below_set ?_ GE214.out | refine below_set ?_ GE223.out) | exact HB.out))⟩)
                              · skip
                                rintro ⟨v220, adz_v220⟩ w17 ⟨h0_, h1_, h2_, h3_⟩
                                have HO221 : Aside0 (Kd.R Kd.string 9 w17 w.heap.size (fun _ => True) v220 y219) := ⟨h0_⟩
                                have HA_HO221 : Aside0 (∃ c_, (v220 : Value) = .slice (some adz_v220) y219.length c_) := ⟨h1_⟩
                                replace BK214 := Aside0.mk h2_
                                replace HB : Aside0 (Below w.heap.size w w17) := ⟨h3_⟩
                                clear h0_ h1_ h2_ h3_
                                have hHeld := trivial
                                obtain ⟨co18, eo18⟩ := HA_HO221.out
                                clear HA_HO221
                                subst eo18
                                refine norm_ (a' := ?_) ?_ ?_
                                rotate_left
                                · simp only [putAll, Act.put, List.setIfInBounds_toArray, List.set_cons_zero, List.set_cons_succ]
                                  rfl
                                refine three_ (i := 0) (j := 10) (k := 14) (Ni := some 13) (Nj := some 23) (Nk := some 7) #[true, true, true, false, false, true, true, true, true, true, false, true, true, false, false, false] #[false, true, true, false, false, true, true, true, true, true, true, true, true, false, false, false] #[false, true, true, false, false, true, true, true, true, true, false, true, true, false, true, false] rfl rfl rfl rfl rfl rfl (three_of HT_.out (by kernel_rfl)) (by decide) (by decide) (by decide) (fun K hK => ?_) (fun K hK => ?_) (fun K hK => ?_)
                                · skip
                                  refine Kd.R_lit_step Kd.string _ 9 ?hg (N := 13) ?hd (xs := ([(⟨#[102, 114, 111, 110, 116]⟩ : ByteArray), (⟨#[98, 97, 99, 107]⟩ : ByteArray), (⟨#[114, 45, 49]⟩ : ByteArray)] : List ByteArray)) (inner := [.string (⟨#[102, 114, 111, 110, 116]⟩ : ByteArray), .string (⟨#[98, 97, 99, 107]⟩ : ByteArray), .string (⟨#[114, 45, 49]⟩ : ByteArray)]) (ok := fun _ => True) (okp := fun _ => True) ?hr ?hp (fun _ hk => hk) trivial (Below.refl _ _) (Nat.le_refl _) (by simp) ?_; (case hd => rfl); (case hg => rfl); (case hr => first | (go_simp; done) | (go_simp; rfl)); (case hp => exact (Reps.one (show Kd.M Kd.string _ _ _ (⟨#[102, 114, 111, 110, 116]⟩ : ByteArray) [.string (⟨#[102, 114, 111, 110, 116]⟩ : ByteArray)] from rfl) (Reps.one (show Kd.M Kd.string _ _ _ (⟨#[98, 97, 99, 107]⟩ : ByteArray) [.string (⟨#[98, 97, 99, 107]⟩ : ByteArray)] from rfl) (Reps.one (show Kd.M Kd.string _ _ _ (⟨#[114, 45, 49]⟩ : ByteArray) [.string (⟨#[114, 45, 49]⟩ : ByteArray)] from rfl) (Reps.none _ _)))))
                                  intro v216 w19 ho20 hb hg_ hnew_
                                  clear hg_ hnew_
                                  (first | rw [← Ny215.out] at ho20 | (simp only [Int.reduceToNat] at ho20; rw [← Ny215.out] at ho20))
                                  have HO217 := Aside0.mk (Kd.R_lower (Kd.R_new' ho20 (Kd.R_lt (by (with_reducible repeat (first | apply Kd.R_alloc | apply Kd.R_drewN | apply Kd.R_drew)); exact HO221.out))) (below_size (by repeat (first | (with_reducible first | exact HB.out | apply below_alloc | apply pw_below_drewN | apply below_drew1 | refine below_set ?_ GE214.out) | exact HB.out))))
                                  replace HO221 := Aside0.mk (Kd.R_elder' (by (with_reducible repeat (first | apply Kd.R_alloc | apply Kd.R_drewN | apply Kd.R_drew)); exact HO221.out) (Kd.R_base ho20) hb)
                                  replace BK214 := Aside0.mk (blk_below (g := gb214) (pk BK214) hb)
                                  replace HB := Aside0.mk (below_step (by repeat (first | (with_reducible first | exact HB.out | apply below_alloc | apply pw_below_drewN | apply below_drew1 | refine below_set ?_ GE214.out) | exact HB.out)) hb)
                                  clear hb ho20
                                  obtain ⟨Ao21, co21, eo21⟩ := Kd.R_slice HO217.out
                                  subst eo21
                                  obtain ⟨ado21, fo21, _⟩ := Kd.at_string (Kd.R_reads' HO217.out).2.2 0 (by decide) (by rw [Ny215.out]; simp)
                                  cases fo21
                                  refine hK.out _ _ trivial (fun hHeld => ?_)
                                  clear hK K
                                  refine norm_ (a' := ?_) ?_ ?_
                                  rotate_left
                                  · show Act.put _ (some 13) _ = _
                                    simp only [Act.put, List.setIfInBounds_toArray, List.set_cons_zero, List.set_cons_succ, i64_w, i32_w]
                                    rfl
                                  refine pure_ (i := 3) (N := some 16) (v := ?_) (a' := ?_) #[true, true, true, true, false, true, true, true, true, true, false, true, true, false, false, false] rfl rfl (any_of HT_.out (by kernel_rfl)) (fun _ _ _ h => h) (Or.inl ⟨by rfl, ?_⟩) ?_ ?_
                                  rotate_left
                                  · intro w'
                                    go_simp
                                    with_reducible rfl
                                  rotate_left
                                  · simp only [Act.put, List.setIfInBounds_toArray, List.set_cons_zero, List.set_cons_succ, i64_w, i32_w]
                                    rfl
                                  exact norm0_ (hJ0_5 (.slice (some ado21) y215.length co21, ado21, .slice (some adz_v220) y219.length co18, adz_v220) _ ⟨(by (with_reducible repeat (first | apply Kd.R_alloc | apply Kd.R_drewN | apply Kd.R_drew)); exact Kd.R_mono HO217.out (fun _ hk => hk.2)), (by (with_reducible repeat (first | apply Kd.R_alloc | apply Kd.R_drewN | apply Kd.R_drew)); exact Kd.R_mono HO221.out (fun _ hk => hk.2)), ⟨_, rfl⟩, ⟨_, rfl⟩, (pk BK214), (by repeat (first | (with_reducible first | exact HB.out | apply below_alloc | apply pw_below_drewN | apply below_drew1 | refine below_set ?_ GE214.out) | exact HB.out))⟩)
                                · skip
                                  (have p222 : 0 ≤ ((ji7) : Int) := of_decide_eq_true (by first | (with_reducible assumption) | assumption); have q222 : (ji7) < (y219.length : Int) := of_decide_eq_true (by first | (with_reducible assumption) | assumption); obtain ⟨ad222, e222, hx222_0⟩ := Kd.at_string (Kd.R_reads' HO221.out).2.2 (ji7) p222 q222; obtain rfl : adz_v220 = ad222 := (by injection e222))
                                  with_reducible_and_instances refine value_ (w1 := ?_) (v := ?_) ?hw_ ?hN_ ?_ ?_
                                  (case hw_ => rfl)
                                  (case hN_ => rfl)
                                  rotate_left 2
                                  · go_simp
                                    constructor
                                    · rfl
                                    · rfl
                                  clear hx222_0
                                  refine hK.out _ _ trivial (fun hHeld => ?_)
                                  clear hK K
                                  refine norm_ (a' := ?_) ?_ ?_
                                  rotate_left
                                  · show Act.put _ (some 23) _ = _
                                    simp only [Act.put, List.setIfInBounds_toArray, List.set_cons_zero, List.set_cons_succ, i64_w, i32_w]
                                    rfl
                                  exact norm0_ (hJ5_10 (.slice (some adz_v220) y219.length co18, adz_v220) _ ⟨(by (with_reducible repeat (first | apply Kd.R_alloc | apply Kd.R_drewN | apply Kd.R_drew)); exact HO221.out), ⟨_, rfl⟩, (pk BK214), (by repeat (first | (with_reducible first | exact HB.out | apply below_alloc | apply pw_below_drewN | apply below_drew1 | refine below_set ?_ GE214.out) | exact HB.out))⟩)
                                · skip
                                  refine box_step ?hg (N := 7) ?hd (cs := #[.string (⟨#[]⟩ : ByteArray), .string (⟨#[]⟩ : ByteArray), .slice none 0 0, .int .i64 0]) (t := 35) ?hr ?_; (case hd => rfl); (case hg => rfl); (case hr => first | (go_simp; done) | (go_simp; rfl))
                                  intro gb223 hg w19 hbox hb
                                  have BK223 := Aside0.mk (hbox)
                                  have GW223 := Aside0.mk ((by rw [hg]; exact (below_size (by repeat (first | (with_reducible first | exact HB.out | apply below_alloc | apply pw_below_drewN | apply below_drew1 | refine below_set ?_ GE214.out) | exact HB.out))) : w.heap.size ≤ gb223))
                                  have GE223 := GW223
                                  have NB214_223 := Aside0.mk ((ne_lt hg (pk BK214) : gb214 ≠ gb223))
                                  have NB223_214 := Aside0.mk ((ne_gt hg (pk BK214) : gb223 ≠ gb214))
                                  replace HO221 := Aside0.mk (Kd.R_below (by (with_reducible repeat (first | apply Kd.R_alloc | apply Kd.R_drewN | apply Kd.R_drew)); exact HO221.out) hb)
                                  replace BK214 := Aside0.mk (blk_below (g := gb214) (pk BK214) hb)
                                  replace HB := Aside0.mk (below_step (by repeat (first | (with_reducible first | exact HB.out | apply below_alloc | apply pw_below_drewN | apply below_drew1 | refine below_set ?_ GE214.out) | exact HB.out)) hb)
                                  clear hb hbox hg
                                  refine hK.out _ _ trivial (fun hHeld => ?_)
                                  clear hK K
                                  refine norm_ (a' := ?_) ?_ ?_
                                  rotate_left
                                  · show Act.put _ (some 7) _ = _
                                    simp only [Act.put, List.setIfInBounds_toArray, List.set_cons_zero, List.set_cons_succ, i64_w, i32_w]
                                    rfl
                                  exact norm0_ (hJ5_14 (.slice (some adz_v220) y219.length co18, adz_v220, gb223) _ ⟨(by (with_reducible repeat (first | apply Kd.R_alloc | apply Kd.R_drewN | apply Kd.R_drew)); exact HO221.out), ⟨_, rfl⟩, (pk BK214), (pk BK223), GW223.out, GE223.out, NB214_223.out, NB223_214.out, (by repeat (first | (with_reducible first | exact HB.out | apply below_alloc | apply pw_below_drewN | apply below_drew1 | refine below_set ?_ GE214.out | refine below_set ?_ GE223.out) | exact HB.out))⟩)
                            · skip
                              rintro ⟨v216, adz_v216⟩ w17 ⟨h0_, h1_, h2_, h3_⟩
                              have HO217 : Aside0 (Kd.R Kd.string 9 w17 w.heap.size (fun _ => True) v216 y215) := ⟨h0_⟩
                              have HA_HO217 : Aside0 (∃ c_, (v216 : Value) = .slice (some adz_v216) y215.length c_) := ⟨h1_⟩
                              replace BK214 := Aside0.mk h2_
                              replace HB : Aside0 (Below w.heap.size w w17) := ⟨h3_⟩
                              clear h0_ h1_ h2_ h3_
                              have hHeld := trivial
                              obtain ⟨co18, eo18⟩ := HA_HO217.out
                              clear HA_HO217
                              subst eo18
                              refine norm_ (a' := ?_) ?_ ?_
                              rotate_left
                              · simp only [putAll, Act.put, List.setIfInBounds_toArray, List.set_cons_zero, List.set_cons_succ]
                                rfl
                              refine three_ (i := 4) (j := 5) (k := 14) (Ni := some 17) (Nj := some 18) (Nk := some 7) #[true, true, true, true, true, false, true, true, true, false, false, true, true, false, false, false] #[true, true, true, true, false, true, true, true, true, false, false, true, true, false, false, false] #[true, true, true, true, false, false, true, true, true, false, false, true, true, false, true, false] rfl rfl rfl rfl rfl rfl (three_of HT_.out (by kernel_rfl)) (by decide) (by decide) (by decide) (fun K hK => ?_) (fun K hK => ?_) (fun K hK => ?_)
                              · skip
                                (have p218 : 0 ≤ ((ji4) : Int) := of_decide_eq_true (by first | (with_reducible assumption) | assumption); have q218 : (ji4) < (y215.length : Int) := of_decide_eq_true (by first | (with_reducible assumption) | assumption); obtain ⟨ad218, e218, hx218_0⟩ := Kd.at_string (Kd.R_reads' HO217.out).2.2 (ji4) p218 q218; obtain rfl : adz_v216 = ad218 := (by injection e218))
                                with_reducible_and_instances refine value_ (w1 := ?_) (v := ?_) ?hw_ ?hN_ ?_ ?_
                                (case hw_ => rfl)
                                (case hN_ => rfl)
                                rotate_left 2
                                · go_simp
                                  constructor
                                  · rfl
                                  · rfl
                                clear hx218_0
                                refine hK.out _ _ trivial (fun hHeld => ?_)
                                clear hK K
                                refine norm_ (a' := ?_) ?_ ?_
                                rotate_left
                                · show Act.put _ (some 17) _ = _
                                  simp only [Act.put, List.setIfInBounds_toArray, List.set_cons_zero, List.set_cons_succ, i64_w, i32_w]
                                  rfl
                                exact norm0_ (hJ0_4 (.slice (some adz_v216) y215.length co18, adz_v216) _ ⟨(by (with_reducible repeat (first | apply Kd.R_alloc | apply Kd.R_drewN | apply Kd.R_drew)); exact HO217.out), ⟨_, rfl⟩, (pk BK214), (by repeat (first | (with_reducible first | exact HB.out | apply below_alloc | apply pw_below_drewN | apply below_drew1 | refine below_set ?_ GE214.out) | exact HB.out))⟩)
                              · skip
                                refine Kd.R_lit_step Kd.string _ 9 ?hg (N := 18) ?hd (xs := ([(⟨#[119, 101, 98]⟩ : ByteArray), (⟨#[97, 112, 105]⟩ : ByteArray), (⟨#[97, 45, 98]⟩ : ByteArray)] : List ByteArray)) (inner := [.string (⟨#[119, 101, 98]⟩ : ByteArray), .string (⟨#[97, 112, 105]⟩ : ByteArray), .string (⟨#[97, 45, 98]⟩ : ByteArray)]) (ok := fun _ => True) (okp := fun _ => True) ?hr ?hp (fun _ hk => hk) trivial (Below.refl _ _) (Nat.le_refl _) (by simp) ?_; (case hd => rfl); (case hg => rfl); (case hr => first | (go_simp; done) | (go_simp; rfl)); (case hp => exact (Reps.one (show Kd.M Kd.string _ _ _ (⟨#[119, 101, 98]⟩ : ByteArray) [.string (⟨#[119, 101, 98]⟩ : ByteArray)] from rfl) (Reps.one (show Kd.M Kd.string _ _ _ (⟨#[97, 112, 105]⟩ : ByteArray) [.string (⟨#[97, 112, 105]⟩ : ByteArray)] from rfl) (Reps.one (show Kd.M Kd.string _ _ _ (⟨#[97, 45, 98]⟩ : ByteArray) [.string (⟨#[97, 45, 98]⟩ : ByteArray)] from rfl) (Reps.none _ _)))))
                                intro v220 w19 ho20 hb hg_ hnew_
                                clear hg_ hnew_
                                (first | rw [← Ny219.out] at ho20 | (simp only [Int.reduceToNat] at ho20; rw [← Ny219.out] at ho20))
                                have HO221 := Aside0.mk (Kd.R_lower (Kd.R_new' ho20 (Kd.R_lt (by (with_reducible repeat (first | apply Kd.R_alloc | apply Kd.R_drewN | apply Kd.R_drew)); exact HO217.out))) (below_size (by repeat (first | (with_reducible first | exact HB.out | apply below_alloc | apply pw_below_drewN | apply below_drew1 | refine below_set ?_ GE214.out) | exact HB.out))))
                                replace HO217 := Aside0.mk (Kd.R_elder' (by (with_reducible repeat (first | apply Kd.R_alloc | apply Kd.R_drewN | apply Kd.R_drew)); exact HO217.out) (Kd.R_base ho20) hb)
                                replace BK214 := Aside0.mk (blk_below (g := gb214) (pk BK214) hb)
                                replace HB := Aside0.mk (below_step (by repeat (first | (with_reducible first | exact HB.out | apply below_alloc | apply pw_below_drewN | apply below_drew1 | refine below_set ?_ GE214.out) | exact HB.out)) hb)
                                clear hb ho20
                                obtain ⟨Ao21, co21, eo21⟩ := Kd.R_slice HO221.out
                                subst eo21
                                obtain ⟨ado21, fo21, _⟩ := Kd.at_string (Kd.R_reads' HO221.out).2.2 0 (by decide) (by rw [Ny219.out]; simp)
                                cases fo21
                                refine hK.out _ _ trivial (fun hHeld => ?_)
                                clear hK K
                                refine norm_ (a' := ?_) ?_ ?_
                                rotate_left
                                · show Act.put _ (some 18) _ = _
                                  simp only [Act.put, List.setIfInBounds_toArray, List.set_cons_zero, List.set_cons_succ, i64_w, i32_w]
                                  rfl
                                refine pure_ (i := 9) (N := some 22) (v := ?_) (a' := ?_) #[true, true, true, true, false, true, true, true, true, true, false, true, true, false, false, false] rfl rfl (any_of HT_.out (by kernel_rfl)) (fun _ _ _ h => h) (Or.inl ⟨by rfl, ?_⟩) ?_ ?_
                                rotate_left
                                · intro w'
                                  go_simp
                                  with_reducible rfl
                                rotate_left
                                · simp only [Act.put, List.setIfInBounds_toArray, List.set_cons_zero, List.set_cons_succ, i64_w, i32_w]
                                  rfl
                                exact norm0_ (hJ0_5 (.slice (some adz_v216) y215.length co18, adz_v216, .slice (some ado21) y219.length co21, ado21) _ ⟨(by (with_reducible repeat (first | apply Kd.R_alloc | apply Kd.R_drewN | apply Kd.R_drew)); exact Kd.R_mono HO217.out (fun _ hk => hk.2)), (by (with_reducible repeat (first | apply Kd.R_alloc | apply Kd.R_drewN | apply Kd.R_drew)); exact Kd.R_mono HO221.out (fun _ hk => hk.2)), ⟨_, rfl⟩, ⟨_, rfl⟩, (pk BK214), (by repeat (first | (with_reducible first | exact HB.out | apply below_alloc | apply pw_below_drewN | apply below_drew1 | refine below_set ?_ GE214.out) | exact HB.out))⟩)
                              · skip
                                refine box_step ?hg (N := 7) ?hd (cs := #[.string (⟨#[]⟩ : ByteArray), .string (⟨#[]⟩ : ByteArray), .slice none 0 0, .int .i64 0]) (t := 35) ?hr ?_; (case hd => rfl); (case hg => rfl); (case hr => first | (go_simp; done) | (go_simp; rfl))
                                intro gb223 hg w19 hbox hb
                                have BK223 := Aside0.mk (hbox)
                                have GW223 := Aside0.mk ((by rw [hg]; exact (below_size (by repeat (first | (with_reducible first | exact HB.out | apply below_alloc | apply pw_below_drewN | apply below_drew1 | refine below_set ?_ GE214.out) | exact HB.out))) : w.heap.size ≤ gb223))
                                have GE223 := GW223
                                have NB214_223 := Aside0.mk ((ne_lt hg (pk BK214) : gb214 ≠ gb223))
                                have NB223_214 := Aside0.mk ((ne_gt hg (pk BK214) : gb223 ≠ gb214))
                                replace HO217 := Aside0.mk (Kd.R_below (by (with_reducible repeat (first | apply Kd.R_alloc | apply Kd.R_drewN | apply Kd.R_drew)); exact HO217.out) hb)
                                replace BK214 := Aside0.mk (blk_below (g := gb214) (pk BK214) hb)
                                replace HB := Aside0.mk (below_step (by repeat (first | (with_reducible first | exact HB.out | apply below_alloc | apply pw_below_drewN | apply below_drew1 | refine below_set ?_ GE214.out) | exact HB.out)) hb)
                                clear hb hbox hg
                                refine hK.out _ _ trivial (fun hHeld => ?_)
                                clear hK K
                                refine norm_ (a' := ?_) ?_ ?_
                                rotate_left
                                · show Act.put _ (some 7) _ = _
                                  simp only [Act.put, List.setIfInBounds_toArray, List.set_cons_zero, List.set_cons_succ, i64_w, i32_w]
                                  rfl
                                exact norm0_ (hJ0_14 (.slice (some adz_v216) y215.length co18, adz_v216, gb223) _ ⟨(by (with_reducible repeat (first | apply Kd.R_alloc | apply Kd.R_drewN | apply Kd.R_drew)); exact HO217.out), ⟨_, rfl⟩, (pk BK214), (pk BK223), GW223.out, GE223.out, NB214_223.out, NB223_214.out, (by repeat (first | (with_reducible first | exact HB.out | apply below_alloc | apply pw_below_drewN | apply below_drew1 | refine below_set ?_ GE214.out | refine below_set ?_ GE223.out) | exact HB.out))⟩)
                          · skip
                            rintro ⟨v220, adz_v220, gb223⟩ w18 ⟨h0_, h1_, h2_, h3_, h4_, h5_, h6_, h7_, h8_⟩
                            have HO221 : Aside0 (Kd.R Kd.string 9 w18 w.heap.size (fun _ => True) v220 y219) := ⟨h0_⟩
                            have HA_HO221 : Aside0 (∃ c_, (v220 : Value) = .slice (some adz_v220) y219.length c_) := ⟨h1_⟩
                            have BK223 : Aside0 (w18.heap[gb223]? = some (.cells #[.string (⟨#[]⟩ : ByteArray), .string (⟨#[]⟩ : ByteArray), .slice none 0 0, .int .i64 0] 35 (0, 0))) := ⟨h3_⟩
                            have GW223 : Aside0 (w.heap.size ≤ gb223) := ⟨h4_⟩
                            have GE223 : Aside0 (w.heap.size ≤ gb223) := ⟨h5_⟩
                            have NB214_223 : Aside0 (gb214 ≠ gb223) := ⟨h6_⟩
                            have NB223_214 : Aside0 (gb223 ≠ gb214) := ⟨h7_⟩
                            replace BK214 := Aside0.mk h2_
                            replace HB : Aside0 (Below w.heap.size w w18) := ⟨h8_⟩
                            clear h0_ h1_ h2_ h3_ h4_ h5_ h6_ h7_ h8_
                            have hHeld := trivial
                            obtain ⟨co19, eo19⟩ := HA_HO221.out
                            clear HA_HO221
                            subst eo19
                            refine norm_ (a' := ?_) ?_ ?_
                            rotate_left
                            · simp only [putAll, Act.put, List.setIfInBounds_toArray, List.set_cons_zero, List.set_cons_succ]
                              rfl
                            refine two_ (i := 0) (j := 10) (Ni := some 13) (Nj := some 23) #[true, true, true, false, false, true, true, true, true, true, false, true, true, false, true, false] #[false, true, true, false, false, true, true, true, true, true, true, true, true, false, true, false] rfl rfl rfl rfl (two_of HT_.out (by kernel_rfl)) (by decide) (by decide) (fun K hK => ?_) (fun K hK => ?_)
                            · skip
                              refine Kd.R_lit_step Kd.string _ 9 ?hg (N := 13) ?hd (xs := ([(⟨#[102, 114, 111, 110, 116]⟩ : ByteArray), (⟨#[98, 97, 99, 107]⟩ : ByteArray), (⟨#[114, 45, 49]⟩ : ByteArray)] : List ByteArray)) (inner := [.string (⟨#[102, 114, 111, 110, 116]⟩ : ByteArray), .string (⟨#[98, 97, 99, 107]⟩ : ByteArray), .string (⟨#[114, 45, 49]⟩ : ByteArray)]) (ok := fun _ => True) (okp := fun _ => True) ?hr ?hp (fun _ hk => hk) trivial (Below.refl _ _) (Nat.le_refl _) (by simp) ?_; (case hd => rfl); (case hg => rfl); (case hr => first | (go_simp; done) | (go_simp; rfl)); (case hp => exact (Reps.one (show Kd.M Kd.string _ _ _ (⟨#[102, 114, 111, 110, 116]⟩ : ByteArray) [.string (⟨#[102, 114, 111, 110, 116]⟩ : ByteArray)] from rfl) (Reps.one (show Kd.M Kd.string _ _ _ (⟨#[98, 97, 99, 107]⟩ : ByteArray) [.string (⟨#[98, 97, 99, 107]⟩ : ByteArray)] from rfl) (Reps.one (show Kd.M Kd.string _ _ _ (⟨#[114, 45, 49]⟩ : ByteArray) [.string (⟨#[114, 45, 49]⟩ : ByteArray)] from rfl) (Reps.none _ _)))))
                              intro v216 w20 ho21 hb hg_ hnew_
                              clear hg_ hnew_
                              (first | rw [← Ny215.out] at ho21 | (simp only [Int.reduceToNat] at ho21; rw [← Ny215.out] at ho21))
                              have HO217 := Aside0.mk (Kd.R_lower (Kd.R_new' ho21 (Kd.R_lt (by (with_reducible repeat (first | apply Kd.R_alloc | apply Kd.R_drewN | apply Kd.R_drew)); exact HO221.out))) (below_size (by repeat (first | (with_reducible first | exact HB.out | apply below_alloc | apply pw_below_drewN | apply below_drew1 | refine below_set ?_ GE214.out | refine below_set ?_ GE223.out) | exact HB.out))))
                              replace HO221 := Aside0.mk (Kd.R_elder' (by (with_reducible repeat (first | apply Kd.R_alloc | apply Kd.R_drewN | apply Kd.R_drew)); exact HO221.out) (Kd.R_base ho21) hb)
                              replace BK214 := Aside0.mk (blk_below (g := gb214) (pk BK214) hb)
                              replace BK223 := Aside0.mk (blk_below (g := gb223) (pk BK223) hb)
                              replace HB := Aside0.mk (below_step (by repeat (first | (with_reducible first | exact HB.out | apply below_alloc | apply pw_below_drewN | apply below_drew1 | refine below_set ?_ GE214.out | refine below_set ?_ GE223.out) | exact HB.out)) hb)
                              clear hb ho21
                              obtain ⟨Ao22, co22, eo22⟩ := Kd.R_slice HO217.out
                              subst eo22
                              obtain ⟨ado22, fo22, _⟩ := Kd.at_string (Kd.R_reads' HO217.out).2.2 0 (by decide) (by rw [Ny215.out]; simp)
                              cases fo22
                              refine hK.out _ _ trivial (fun hHeld => ?_)
                              clear hK K
                              refine norm_ (a' := ?_) ?_ ?_
                              rotate_left
                              · show Act.put _ (some 13) _ = _
                                simp only [Act.put, List.setIfInBounds_toArray, List.set_cons_zero, List.set_cons_succ, i64_w, i32_w]
                                rfl
                              refine pure_ (i := 3) (N := some 16) (v := ?_) (a' := ?_) #[true, true, true, true, false, true, true, true, true, true, false, true, true, false, true, false] rfl rfl (any_of HT_.out (by kernel_rfl)) (fun _ _ _ h => h) (Or.inl ⟨by rfl, ?_⟩) ?_ ?_
                              rotate_left
                              · intro w'
                                go_simp
                                with_reducible rfl
                              rotate_left
                              · simp only [Act.put, List.setIfInBounds_toArray, List.set_cons_zero, List.set_cons_succ, i64_w, i32_w]
                                rfl
                              exact norm0_ (hJ0_5_14 (.slice (some ado22) y215.length co22, ado22, .slice (some adz_v220) y219.length co19, adz_v220, gb223) _ ⟨(by (with_reducible repeat (first | apply Kd.R_alloc | apply Kd.R_drewN | apply Kd.R_drew)); exact Kd.R_mono HO217.out (fun _ hk => hk.2)), (by (with_reducible repeat (first | apply Kd.R_alloc | apply Kd.R_drewN | apply Kd.R_drew)); exact Kd.R_mono HO221.out (fun _ hk => hk.2)), ⟨_, rfl⟩, ⟨_, rfl⟩, (pk BK214), (pk BK223), GW223.out, GE223.out, NB214_223.out, NB223_214.out, (by repeat (first | (with_reducible first | exact HB.out | apply below_alloc | apply pw_below_drewN | apply below_drew1 | refine below_set ?_ GE214.out | refine below_set ?_ GE223.out) | exact HB.out))⟩)
                            · skip
                              (have p222 : 0 ≤ ((ji7) : Int) := of_decide_eq_true (by first | (with_reducible assumption) | assumption); have q222 : (ji7) < (y219.length : Int) := of_decide_eq_true (by first | (with_reducible assumption) | assumption); obtain ⟨ad222, e222, hx222_0⟩ := Kd.at_string (Kd.R_reads' HO221.out).2.2 (ji7) p222 q222; obtain rfl : adz_v220 = ad222 := (by injection e222))
                              with_reducible_and_instances refine value_ (w1 := ?_) (v := ?_) ?hw_ ?hN_ ?_ ?_
                              (case hw_ => rfl)
                              (case hN_ => rfl)
                              rotate_left 2
                              · go_simp
                                constructor
                                · rfl
                                · rfl
                              clear hx222_0
                              refine hK.out _ _ trivial (fun hHeld => ?_)
                              clear hK K
                              refine norm_ (a' := ?_) ?_ ?_
                              rotate_left
                              · show Act.put _ (some 23) _ = _
                                simp only [Act.put, List.setIfInBounds_toArray, List.set_cons_zero, List.set_cons_succ, i64_w, i32_w]
                                rfl
                              exact norm0_ (hJ5_10_14 (.slice (some adz_v220) y219.length co19, adz_v220, gb223) _ ⟨(by (with_reducible repeat (first | apply Kd.R_alloc | apply Kd.R_drewN | apply Kd.R_drew)); exact HO221.out), ⟨_, rfl⟩, (pk BK214), (pk BK223), GW223.out, GE223.out, NB214_223.out, NB223_214.out, (by repeat (first | (with_reducible first | exact HB.out | apply below_alloc | apply pw_below_drewN | apply below_drew1 | refine below_set ?_ GE214.out | refine below_set ?_ GE223.out) | exact HB.out))⟩)
                        · skip
                          rintro ⟨v220, adz_v220⟩ w17 ⟨h0_, h1_, h2_, h3_⟩
                          have HO221 : Aside0 (Kd.R Kd.string 9 w17 w.heap.size (fun _ => True) v220 y219) := ⟨h0_⟩
                          have HA_HO221 : Aside0 (∃ c_, (v220 : Value) = .slice (some adz_v220) y219.length c_) := ⟨h1_⟩
                          replace BK214 := Aside0.mk h2_
                          replace HB : Aside0 (Below w.heap.size w w17) := ⟨h3_⟩
                          clear h0_ h1_ h2_ h3_
                          have hHeld := trivial
                          obtain ⟨co18, eo18⟩ := HA_HO221.out
                          clear HA_HO221
                          subst eo18
                          refine norm_ (a' := ?_) ?_ ?_
                          rotate_left
                          · simp only [putAll, Act.put, List.setIfInBounds_toArray, List.set_cons_zero, List.set_cons_succ]
                            rfl
                          refine two_ (i := 0) (j := 14) (Ni := some 13) (Nj := some 7) #[true, true, true, false, false, true, true, true, true, true, true, true, true, false, false, false] #[false, true, true, false, false, true, true, true, true, true, true, true, true, false, true, false] rfl rfl rfl rfl (two_of HT_.out (by kernel_rfl)) (by decide) (by decide) (fun K hK => ?_) (fun K hK => ?_)
                          · skip
                            refine Kd.R_lit_step Kd.string _ 9 ?hg (N := 13) ?hd (xs := ([(⟨#[102, 114, 111, 110, 116]⟩ : ByteArray), (⟨#[98, 97, 99, 107]⟩ : ByteArray), (⟨#[114, 45, 49]⟩ : ByteArray)] : List ByteArray)) (inner := [.string (⟨#[102, 114, 111, 110, 116]⟩ : ByteArray), .string (⟨#[98, 97, 99, 107]⟩ : ByteArray), .string (⟨#[114, 45, 49]⟩ : ByteArray)]) (ok := fun _ => True) (okp := fun _ => True) ?hr ?hp (fun _ hk => hk) trivial (Below.refl _ _) (Nat.le_refl _) (by simp) ?_; (case hd => rfl); (case hg => rfl); (case hr => first | (go_simp; done) | (go_simp; rfl)); (case hp => exact (Reps.one (show Kd.M Kd.string _ _ _ (⟨#[102, 114, 111, 110, 116]⟩ : ByteArray) [.string (⟨#[102, 114, 111, 110, 116]⟩ : ByteArray)] from rfl) (Reps.one (show Kd.M Kd.string _ _ _ (⟨#[98, 97, 99, 107]⟩ : ByteArray) [.string (⟨#[98, 97, 99, 107]⟩ : ByteArray)] from rfl) (Reps.one (show Kd.M Kd.string _ _ _ (⟨#[114, 45, 49]⟩ : ByteArray) [.string (⟨#[114, 45, 49]⟩ : ByteArray)] from rfl) (Reps.none _ _)))))
                            intro v216 w19 ho20 hb hg_ hnew_
                            clear hg_ hnew_
                            (first | rw [← Ny215.out] at ho20 | (simp only [Int.reduceToNat] at ho20; rw [← Ny215.out] at ho20))
                            have HO217 := Aside0.mk (Kd.R_lower (Kd.R_new' ho20 (Kd.R_lt (by (with_reducible repeat (first | apply Kd.R_alloc | apply Kd.R_drewN | apply Kd.R_drew)); exact HO221.out))) (below_size (by repeat (first | (with_reducible first | exact HB.out | apply below_alloc | apply pw_below_drewN | apply below_drew1 | refine below_set ?_ GE214.out) | exact HB.out))))
                            replace HO221 := Aside0.mk (Kd.R_elder' (by (with_reducible repeat (first | apply Kd.R_alloc | apply Kd.R_drewN | apply Kd.R_drew)); exact HO221.out) (Kd.R_base ho20) hb)
                            replace BK214 := Aside0.mk (blk_below (g := gb214) (pk BK214) hb)
                            replace HB := Aside0.mk (below_step (by repeat (first | (with_reducible first | exact HB.out | apply below_alloc | apply pw_below_drewN | apply below_drew1 | refine below_set ?_ GE214.out) | exact HB.out)) hb)
                            clear hb ho20
                            obtain ⟨Ao21, co21, eo21⟩ := Kd.R_slice HO217.out
                            subst eo21
                            obtain ⟨ado21, fo21, _⟩ := Kd.at_string (Kd.R_reads' HO217.out).2.2 0 (by decide) (by rw [Ny215.out]; simp)
                            cases fo21
                            refine hK.out _ _ trivial (fun hHeld => ?_)
                            clear hK K
                            refine norm_ (a' := ?_) ?_ ?_
                            rotate_left
                            · show Act.put _ (some 13) _ = _
                              simp only [Act.put, List.setIfInBounds_toArray, List.set_cons_zero, List.set_cons_succ, i64_w, i32_w]
                              rfl
                            refine pure_ (i := 3) (N := some 16) (v := ?_) (a' := ?_) #[true, true, true, true, false, true, true, true, true, true, true, true, true, false, false, false] rfl rfl (any_of HT_.out (by kernel_rfl)) (fun _ _ _ h => h) (Or.inl ⟨by rfl, ?_⟩) ?_ ?_
                            rotate_left
                            · intro w'
                              go_simp
                              with_reducible rfl
                            rotate_left
                            · simp only [Act.put, List.setIfInBounds_toArray, List.set_cons_zero, List.set_cons_succ, i64_w, i32_w]
                              rfl
                            exact norm0_ (hJ0_5_10 (.slice (some ado21) y215.length co21, ado21, .slice (some adz_v220) y219.length co18, adz_v220) _ ⟨(by (with_reducible repeat (first | apply Kd.R_alloc | apply Kd.R_drewN | apply Kd.R_drew)); exact Kd.R_mono HO217.out (fun _ hk => hk.2)), (by (with_reducible repeat (first | apply Kd.R_alloc | apply Kd.R_drewN | apply Kd.R_drew)); exact Kd.R_mono HO221.out (fun _ hk => hk.2)), ⟨_, rfl⟩, ⟨_, rfl⟩, (pk BK214), (by repeat (first | (with_reducible first | exact HB.out | apply below_alloc | apply pw_below_drewN | apply below_drew1 | refine below_set ?_ GE214.out) | exact HB.out))⟩)
                          · skip
                            refine box_step ?hg (N := 7) ?hd (cs := #[.string (⟨#[]⟩ : ByteArray), .string (⟨#[]⟩ : ByteArray), .slice none 0 0, .int .i64 0]) (t := 35) ?hr ?_; (case hd => rfl); (case hg => rfl); (case hr => first | (go_simp; done) | (go_simp; rfl))
                            intro gb223 hg w19 hbox hb
                            have BK223 := Aside0.mk (hbox)
                            have GW223 := Aside0.mk ((by rw [hg]; exact (below_size (by repeat (first | (with_reducible first | exact HB.out | apply below_alloc | apply pw_below_drewN | apply below_drew1 | refine below_set ?_ GE214.out) | exact HB.out))) : w.heap.size ≤ gb223))
                            have GE223 := GW223
                            have NB214_223 := Aside0.mk ((ne_lt hg (pk BK214) : gb214 ≠ gb223))
                            have NB223_214 := Aside0.mk ((ne_gt hg (pk BK214) : gb223 ≠ gb214))
                            replace HO221 := Aside0.mk (Kd.R_below (by (with_reducible repeat (first | apply Kd.R_alloc | apply Kd.R_drewN | apply Kd.R_drew)); exact HO221.out) hb)
                            replace BK214 := Aside0.mk (blk_below (g := gb214) (pk BK214) hb)
                            replace HB := Aside0.mk (below_step (by repeat (first | (with_reducible first | exact HB.out | apply below_alloc | apply pw_below_drewN | apply below_drew1 | refine below_set ?_ GE214.out) | exact HB.out)) hb)
                            clear hb hbox hg
                            refine hK.out _ _ trivial (fun hHeld => ?_)
                            clear hK K
                            refine norm_ (a' := ?_) ?_ ?_
                            rotate_left
                            · show Act.put _ (some 7) _ = _
                              simp only [Act.put, List.setIfInBounds_toArray, List.set_cons_zero, List.set_cons_succ, i64_w, i32_w]
                              rfl
                            exact norm0_ (hJ5_10_14 (.slice (some adz_v220) y219.length co18, adz_v220, gb223) _ ⟨(by (with_reducible repeat (first | apply Kd.R_alloc | apply Kd.R_drewN | apply Kd.R_drew)); exact HO221.out), ⟨_, rfl⟩, (pk BK214), (pk BK223), GW223.out, GE223.out, NB214_223.out, NB223_214.out, (by repeat (first | (with_reducible first | exact HB.out | apply below_alloc | apply pw_below_drewN | apply below_drew1 | refine below_set ?_ GE214.out | refine below_set ?_ GE223.out) | exact HB.out))⟩)
                      · skip
                        rintro ⟨v216, adz_v216, gb223⟩ w18 ⟨h0_, h1_, h2_, h3_, h4_, h5_, h6_, h7_, h8_⟩
                        have HO217 : Aside0 (Kd.R Kd.string 9 w18 w.heap.size (fun _ => True) v216 y215) := ⟨h0_⟩
                        have HA_HO217 : Aside0 (∃ c_, (v216 : Value) = .slice (some adz_v216) y215.length c_) := ⟨h1_⟩
                        have BK223 : Aside0 (w18.heap[gb223]? = some (.cells #[.string (⟨#[]⟩ : ByteArray), .string (⟨#[]⟩ : ByteArray), .slice none 0 0, .int .i64 0] 35 (0, 0))) := ⟨h3_⟩
                        have GW223 : Aside0 (w.heap.size ≤ gb223) := ⟨h4_⟩
                        have GE223 : Aside0 (w.heap.size ≤ gb223) := ⟨h5_⟩
                        have NB214_223 : Aside0 (gb214 ≠ gb223) := ⟨h6_⟩
                        have NB223_214 : Aside0 (gb223 ≠ gb214) := ⟨h7_⟩
                        replace BK214 := Aside0.mk h2_
                        replace HB : Aside0 (Below w.heap.size w w18) := ⟨h8_⟩
                        clear h0_ h1_ h2_ h3_ h4_ h5_ h6_ h7_ h8_
                        have hHeld := trivial
                        obtain ⟨co19, eo19⟩ := HA_HO217.out
                        clear HA_HO217
                        subst eo19
                        refine norm_ (a' := ?_) ?_ ?_
                        rotate_left
                        · simp only [putAll, Act.put, List.setIfInBounds_toArray, List.set_cons_zero, List.set_cons_succ]
                          rfl
                        refine two_ (i := 4) (j := 5) (Ni := some 17) (Nj := some 18) #[true, true, true, true, true, false, true, true, true, false, false, true, true, false, true, false] #[true, true, true, true, false, true, true, true, true, false, false, true, true, false, true, false] rfl rfl rfl rfl (two_of HT_.out (by kernel_rfl)) (by decide) (by decide) (fun K hK => ?_) (fun K hK => ?_)
                        · skip
                          (have p218 : 0 ≤ ((ji4) : Int) := of_decide_eq_true (by first | (with_reducible assumption) | assumption); have q218 : (ji4) < (y215.length : Int) := of_decide_eq_true (by first | (with_reducible assumption) | assumption); obtain ⟨ad218, e218, hx218_0⟩ := Kd.at_string (Kd.R_reads' HO217.out).2.2 (ji4) p218 q218; obtain rfl : adz_v216 = ad218 := (by injection e218))
                          with_reducible_and_instances refine value_ (w1 := ?_) (v := ?_) ?hw_ ?hN_ ?_ ?_
                          (case hw_ => rfl)
                          (case hN_ => rfl)
                          rotate_left 2
                          · go_simp
                            constructor
                            · rfl
                            · rfl
                          clear hx218_0
                          refine hK.out _ _ trivial (fun hHeld => ?_)
                          clear hK K
                          refine norm_ (a' := ?_) ?_ ?_
                          rotate_left
                          · show Act.put _ (some 17) _ = _
                            simp only [Act.put, List.setIfInBounds_toArray, List.set_cons_zero, List.set_cons_succ, i64_w, i32_w]
                            rfl
                          exact norm0_ (hJ0_4_14 (.slice (some adz_v216) y215.length co19, adz_v216, gb223) _ ⟨(by (with_reducible repeat (first | apply Kd.R_alloc | apply Kd.R_drewN | apply Kd.R_drew)); exact HO217.out), ⟨_, rfl⟩, (pk BK214), (pk BK223), GW223.out, GE223.out, NB214_223.out, NB223_214.out, (by repeat (first | (with_reducible first | exact HB.out | apply below_alloc | apply pw_below_drewN | apply below_drew1 | refine below_set ?_ GE214.out | refine below_set ?_ GE223.out) | exact HB.out))⟩)
                        · skip
                          refine Kd.R_lit_step Kd.string _ 9 ?hg (N := 18) ?hd (xs := ([(⟨#[119, 101, 98]⟩ : ByteArray), (⟨#[97, 112, 105]⟩ : ByteArray), (⟨#[97, 45, 98]⟩ : ByteArray)] : List ByteArray)) (inner := [.string (⟨#[119, 101, 98]⟩ : ByteArray), .string (⟨#[97, 112, 105]⟩ : ByteArray), .string (⟨#[97, 45, 98]⟩ : ByteArray)]) (ok := fun _ => True) (okp := fun _ => True) ?hr ?hp (fun _ hk => hk) trivial (Below.refl _ _) (Nat.le_refl _) (by simp) ?_; (case hd => rfl); (case hg => rfl); (case hr => first | (go_simp; done) | (go_simp; rfl)); (case hp => exact (Reps.one (show Kd.M Kd.string _ _ _ (⟨#[119, 101, 98]⟩ : ByteArray) [.string (⟨#[119, 101, 98]⟩ : ByteArray)] from rfl) (Reps.one (show Kd.M Kd.string _ _ _ (⟨#[97, 112, 105]⟩ : ByteArray) [.string (⟨#[97, 112, 105]⟩ : ByteArray)] from rfl) (Reps.one (show Kd.M Kd.string _ _ _ (⟨#[97, 45, 98]⟩ : ByteArray) [.string (⟨#[97, 45, 98]⟩ : ByteArray)] from rfl) (Reps.none _ _)))))
                          intro v220 w20 ho21 hb hg_ hnew_
                          clear hg_ hnew_
                          (first | rw [← Ny219.out] at ho21 | (simp only [Int.reduceToNat] at ho21; rw [← Ny219.out] at ho21))
                          have HO221 := Aside0.mk (Kd.R_lower (Kd.R_new' ho21 (Kd.R_lt (by (with_reducible repeat (first | apply Kd.R_alloc | apply Kd.R_drewN | apply Kd.R_drew)); exact HO217.out))) (below_size (by repeat (first | (with_reducible first | exact HB.out | apply below_alloc | apply pw_below_drewN | apply below_drew1 | refine below_set ?_ GE214.out | refine below_set ?_ GE223.out) | exact HB.out))))
                          replace HO217 := Aside0.mk (Kd.R_elder' (by (with_reducible repeat (first | apply Kd.R_alloc | apply Kd.R_drewN | apply Kd.R_drew)); exact HO217.out) (Kd.R_base ho21) hb)
                          replace BK214 := Aside0.mk (blk_below (g := gb214) (pk BK214) hb)
                          replace BK223 := Aside0.mk (blk_below (g := gb223) (pk BK223) hb)
                          replace HB := Aside0.mk (below_step (by repeat (first | (with_reducible first | exact HB.out | apply below_alloc | apply pw_below_drewN | apply below_drew1 | refine below_set ?_ GE214.out | refine below_set ?_ GE223.out) | exact HB.out)) hb)
                          clear hb ho21
                          obtain ⟨Ao22, co22, eo22⟩ := Kd.R_slice HO221.out
                          subst eo22
                          obtain ⟨ado22, fo22, _⟩ := Kd.at_string (Kd.R_reads' HO221.out).2.2 0 (by decide) (by rw [Ny219.out]; simp)
                          cases fo22
                          refine hK.out _ _ trivial (fun hHeld => ?_)
                          clear hK K
                          refine norm_ (a' := ?_) ?_ ?_
                          rotate_left
                          · show Act.put _ (some 18) _ = _
                            simp only [Act.put, List.setIfInBounds_toArray, List.set_cons_zero, List.set_cons_succ, i64_w, i32_w]
                            rfl
                          refine pure_ (i := 9) (N := some 22) (v := ?_) (a' := ?_) #[true, true, true, true, false, true, true, true, true, true, false, true, true, false, true, false] rfl rfl (any_of HT_.out (by kernel_rfl)) (fun _ _ _ h => h) (Or.inl ⟨by rfl, ?_⟩) ?_ ?_
                          rotate_left
                          · intro w'
                            go_simp
                            with_reducible rfl
                          rotate_left
                          · simp only [Act.put, List.setIfInBounds_toArray, List.set_cons_zero, List.set_cons_succ, i64_w, i32_w]
                            rfl
                          exact norm0_ (hJ0_5_14 (.slice (some adz_v216) y215.length co19, adz_v216, .slice (some ado22) y219.length co22, ado22, gb223) _ ⟨(by (with_reducible repeat (first | apply Kd.R_alloc | apply Kd.R_drewN | apply Kd.R_drew)); exact Kd.R_mono HO217.out (fun _ hk => hk.2)), (by (with_reducible repeat (first | apply Kd.R_alloc | apply Kd.R_drewN | apply Kd.R_drew)); exact Kd.R_mono HO221.out (fun _ hk => hk.2)), ⟨_, rfl⟩, ⟨_, rfl⟩, (pk BK214), (pk BK223), GW223.out, GE223.out, NB214_223.out, NB223_214.out, (by repeat (first | (with_reducible first | exact HB.out | apply below_alloc | apply pw_below_drewN | apply below_drew1 | refine below_set ?_ GE214.out | refine below_set ?_ GE223.out) | exact HB.out))⟩)
                    · skip
                      rintro ⟨v216, adz_v216, v220, adz_v220⟩ w20 ⟨h0_, h1_, h2_, h3_, h4_, h5_⟩
                      have HO217 : Aside0 (Kd.R Kd.string 9 w20 w.heap.size (fun k_ => some k_ ≠ (v220 : Value).ownBlock) v216 y215) := ⟨h0_⟩
                      have HO221 : Aside0 (Kd.R Kd.string 9 w20 w.heap.size (fun k_ => some k_ ≠ (v216 : Value).ownBlock) v220 y219) := ⟨h1_⟩
                      have HA_HO217 : Aside0 (∃ c_, (v216 : Value) = .slice (some adz_v216) y215.length c_) := ⟨h2_⟩
                      have HA_HO221 : Aside0 (∃ c_, (v220 : Value) = .slice (some adz_v220) y219.length c_) := ⟨h3_⟩
                      replace BK214 := Aside0.mk h4_
                      replace HB : Aside0 (Below w.heap.size w w20) := ⟨h5_⟩
                      clear h0_ h1_ h2_ h3_ h4_ h5_
                      have hHeld := trivial
                      obtain ⟨co21, eo21⟩ := HA_HO217.out
                      clear HA_HO217
                      subst eo21
                      obtain ⟨co22, eo22⟩ := HA_HO221.out
                      clear HA_HO221
                      subst eo22
                      refine norm_ (a' := ?_) ?_ ?_
                      rotate_left
                      · simp only [putAll, Act.put, List.setIfInBounds_toArray, List.set_cons_zero, List.set_cons_succ]
                        rfl
                      refine three_ (i := 4) (j := 10) (k := 14) (Ni := some 17) (Nj := some 23) (Nk := some 7) #[true, true, true, true, true, true, true, true, true, true, false, true, true, false, false, false] #[true, true, true, true, false, true, true, true, true, true, true, true, true, false, false, false] #[true, true, true, true, false, true, true, true, true, true, false, true, true, false, true, false] rfl rfl rfl rfl rfl rfl (three_of HT_.out (by kernel_rfl)) (by decide) (by decide) (by decide) (fun K hK => ?_) (fun K hK => ?_) (fun K hK => ?_)
                      · skip
                        (have p218 : 0 ≤ ((ji4) : Int) := of_decide_eq_true (by first | (with_reducible assumption) | assumption); have q218 : (ji4) < (y215.length : Int) := of_decide_eq_true (by first | (with_reducible assumption) | assumption); obtain ⟨ad218, e218, hx218_0⟩ := Kd.at_string (Kd.R_reads' HO217.out).2.2 (ji4) p218 q218; obtain rfl : adz_v216 = ad218 := (by injection e218))
                        with_reducible_and_instances refine value_ (w1 := ?_) (v := ?_) ?hw_ ?hN_ ?_ ?_
                        (case hw_ => rfl)
                        (case hN_ => rfl)
                        rotate_left 2
                        · go_simp
                          constructor
                          · rfl
                          · rfl
                        clear hx218_0
                        refine hK.out _ _ trivial (fun hHeld => ?_)
                        clear hK K
                        refine norm_ (a' := ?_) ?_ ?_
                        rotate_left
                        · show Act.put _ (some 17) _ = _
                          simp only [Act.put, List.setIfInBounds_toArray, List.set_cons_zero, List.set_cons_succ, i64_w, i32_w]
                          rfl
                        exact norm0_ (hJ0_4_5 (.slice (some adz_v216) y215.length co21, adz_v216, .slice (some adz_v220) y219.length co22, adz_v220) _ ⟨(by (with_reducible repeat (first | apply Kd.R_alloc | apply Kd.R_drewN | apply Kd.R_drew)); exact HO217.out), (by (with_reducible repeat (first | apply Kd.R_alloc | apply Kd.R_drewN | apply Kd.R_drew)); exact HO221.out), ⟨_, rfl⟩, ⟨_, rfl⟩, (pk BK214), (by repeat (first | (with_reducible first | exact HB.out | apply below_alloc | apply pw_below_drewN | apply below_drew1 | refine below_set ?_ GE214.out) | exact HB.out))⟩)
                      · skip
                        (have p222 : 0 ≤ ((ji7) : Int) := of_decide_eq_true (by first | (with_reducible assumption) | assumption); have q222 : (ji7) < (y219.length : Int) := of_decide_eq_true (by first | (with_reducible assumption) | assumption); obtain ⟨ad222, e222, hx222_0⟩ := Kd.at_string (Kd.R_reads' HO221.out).2.2 (ji7) p222 q222; obtain rfl : adz_v220 = ad222 := (by injection e222))
                        with_reducible_and_instances refine value_ (w1 := ?_) (v := ?_) ?hw_ ?hN_ ?_ ?_
                        (case hw_ => rfl)
                        (case hN_ => rfl)
                        rotate_left 2
                        · go_simp
                          constructor
                          · rfl
                          · rfl
                        clear hx222_0
                        refine hK.out _ _ trivial (fun hHeld => ?_)
                        clear hK K
                        refine norm_ (a' := ?_) ?_ ?_
                        rotate_left
                        · show Act.put _ (some 23) _ = _
                          simp only [Act.put, List.setIfInBounds_toArray, List.set_cons_zero, List.set_cons_succ, i64_w, i32_w]
                          rfl
                        exact norm0_ (hJ0_5_10 (.slice (some adz_v216) y215.length co21, adz_v216, .slice (some adz_v220) y219.length co22, adz_v220) _ ⟨(by (with_reducible repeat (first | apply Kd.R_alloc | apply Kd.R_drewN | apply Kd.R_drew)); exact HO217.out), (by (with_reducible repeat (first | apply Kd.R_alloc | apply Kd.R_drewN | apply Kd.R_drew)); exact HO221.out), ⟨_, rfl⟩, ⟨_, rfl⟩, (pk BK214), (by repeat (first | (with_reducible first | exact HB.out | apply below_alloc | apply pw_below_drewN | apply below_drew1 | refine below_set ?_ GE214.out) | exact HB.out))⟩)
                      · skip
                        refine box_step ?hg (N := 7) ?hd (cs := #[.string (⟨#[]⟩ : ByteArray), .string (⟨#[]⟩ : ByteArray), .slice none 0 0, .int .i64 0]) (t := 35) ?hr ?_; (case hd => rfl); (case hg => rfl); (case hr => first | (go_simp; done) | (go_simp; rfl))
                        intro gb223 hg w23 hbox hb
                        have BK223 := Aside0.mk (hbox)
                        have GW223 := Aside0.mk ((by rw [hg]; exact (below_size (by repeat (first | (with_reducible first | exact HB.out | apply below_alloc | apply pw_below_drewN | apply below_drew1 | refine below_set ?_ GE214.out) | exact HB.out))) : w.heap.size ≤ gb223))
                        have GE223 := GW223
                        have NB214_223 := Aside0.mk ((ne_lt hg (pk BK214) : gb214 ≠ gb223))
                        have NB223_214 := Aside0.mk ((ne_gt hg (pk BK214) : gb223 ≠ gb214))
                        replace HO217 := Aside0.mk (Kd.R_below (by (with_reducible repeat (first | apply Kd.R_alloc | apply Kd.R_drewN | apply Kd.R_drew)); exact HO217.out) hb)
                        replace HO221 := Aside0.mk (Kd.R_below (by (with_reducible repeat (first | apply Kd.R_alloc | apply Kd.R_drewN | apply Kd.R_drew)); exact HO221.out) hb)
                        replace BK214 := Aside0.mk (blk_below (g := gb214) (pk BK214) hb)
                        replace HB := Aside0.mk (below_step (by repeat (first | (with_reducible first | exact HB.out | apply below_alloc | apply pw_below_drewN | apply below_drew1 | refine below_set ?_ GE214.out) | exact HB.out)) hb)
                        clear hb hbox hg
                        refine hK.out _ _ trivial (fun hHeld => ?_)
                        clear hK K
                        refine norm_ (a' := ?_) ?_ ?_
                        rotate_left
                        · show Act.put _ (some 7) _ = _
                          simp only [Act.put, List.setIfInBounds_toArray, List.set_cons_zero, List.set_cons_succ, i64_w, i32_w]
                          rfl
                        exact norm0_ (hJ0_5_14 (.slice (some adz_v216) y215.length co21, adz_v216, .slice (some adz_v220) y219.length co22, adz_v220, gb223) _ ⟨(by (with_reducible repeat (first | apply Kd.R_alloc | apply Kd.R_drewN | apply Kd.R_drew)); exact HO217.out), (by (with_reducible repeat (first | apply Kd.R_alloc | apply Kd.R_drewN | apply Kd.R_drew)); exact HO221.out), ⟨_, rfl⟩, ⟨_, rfl⟩, (pk BK214), (pk BK223), GW223.out, GE223.out, NB214_223.out, NB223_214.out, (by repeat (first | (with_reducible first | exact HB.out | apply below_alloc | apply pw_below_drewN | apply below_drew1 | refine below_set ?_ GE214.out | refine below_set ?_ GE223.out) | exact HB.out))⟩)
                  · skip
                    rintro ⟨v216, adz_v216⟩ w17 ⟨h0_, h1_, h2_, h3_⟩
                    have HO217 : Aside0 (Kd.R Kd.string 9 w17 w.heap.size (fun _ => True) v216 y215) := ⟨h0_⟩
                    have HA_HO217 : Aside0 (∃ c_, (v216 : Value) = .slice (some adz_v216) y215.length c_) := ⟨h1_⟩
                    replace BK214 := Aside0.mk h2_
                    replace HB : Aside0 (Below w.heap.size w w17) := ⟨h3_⟩
                    clear h0_ h1_ h2_ h3_
                    have hHeld := trivial
                    obtain ⟨co18, eo18⟩ := HA_HO217.out
                    clear HA_HO217
                    subst eo18
                    refine norm_ (a' := ?_) ?_ ?_
                    rotate_left
                    · simp only [putAll, Act.put, List.setIfInBounds_toArray, List.set_cons_zero, List.set_cons_succ]
                      rfl
                    refine two_ (i := 5) (j := 14) (Ni := some 18) (Nj := some 7) #[true, true, true, true, true, true, true, true, true, false, false, true, true, false, false, false] #[true, true, true, true, true, false, true, true, true, false, false, true, true, false, true, false] rfl rfl rfl rfl (two_of HT_.out (by kernel_rfl)) (by decide) (by decide) (fun K hK => ?_) (fun K hK => ?_)
                    · skip
                      refine Kd.R_lit_step Kd.string _ 9 ?hg (N := 18) ?hd (xs := ([(⟨#[119, 101, 98]⟩ : ByteArray), (⟨#[97, 112, 105]⟩ : ByteArray), (⟨#[97, 45, 98]⟩ : ByteArray)] : List ByteArray)) (inner := [.string (⟨#[119, 101, 98]⟩ : ByteArray), .string (⟨#[97, 112, 105]⟩ : ByteArray), .string (⟨#[97, 45, 98]⟩ : ByteArray)]) (ok := fun _ => True) (okp := fun _ => True) ?hr ?hp (fun _ hk => hk) trivial (Below.refl _ _) (Nat.le_refl _) (by simp) ?_; (case hd => rfl); (case hg => rfl); (case hr => first | (go_simp; done) | (go_simp; rfl)); (case hp => exact (Reps.one (show Kd.M Kd.string _ _ _ (⟨#[119, 101, 98]⟩ : ByteArray) [.string (⟨#[119, 101, 98]⟩ : ByteArray)] from rfl) (Reps.one (show Kd.M Kd.string _ _ _ (⟨#[97, 112, 105]⟩ : ByteArray) [.string (⟨#[97, 112, 105]⟩ : ByteArray)] from rfl) (Reps.one (show Kd.M Kd.string _ _ _ (⟨#[97, 45, 98]⟩ : ByteArray) [.string (⟨#[97, 45, 98]⟩ : ByteArray)] from rfl) (Reps.none _ _)))))
                      intro v220 w19 ho20 hb hg_ hnew_
                      clear hg_ hnew_
                      (first | rw [← Ny219.out] at ho20 | (simp only [Int.reduceToNat] at ho20; rw [← Ny219.out] at ho20))
                      have HO221 := Aside0.mk (Kd.R_lower (Kd.R_new' ho20 (Kd.R_lt (by (with_reducible repeat (first | apply Kd.R_alloc | apply Kd.R_drewN | apply Kd.R_drew)); exact HO217.out))) (below_size (by repeat (first | (with_reducible first | exact HB.out | apply below_alloc | apply pw_below_drewN | apply below_drew1 | refine below_set ?_ GE214.out) | exact HB.out))))
                      replace HO217 := Aside0.mk (Kd.R_elder' (by (with_reducible repeat (first | apply Kd.R_alloc | apply Kd.R_drewN | apply Kd.R_drew)); exact HO217.out) (Kd.R_base ho20) hb)
                      replace BK214 := Aside0.mk (blk_below (g := gb214) (pk BK214) hb)
                      replace HB := Aside0.mk (below_step (by repeat (first | (with_reducible first | exact HB.out | apply below_alloc | apply pw_below_drewN | apply below_drew1 | refine below_set ?_ GE214.out) | exact HB.out)) hb)
                      clear hb ho20
                      obtain ⟨Ao21, co21, eo21⟩ := Kd.R_slice HO221.out
                      subst eo21
                      obtain ⟨ado21, fo21, _⟩ := Kd.at_string (Kd.R_reads' HO221.out).2.2 0 (by decide) (by rw [Ny219.out]; simp)
                      cases fo21
                      refine hK.out _ _ trivial (fun hHeld => ?_)
                      clear hK K
                      refine norm_ (a' := ?_) ?_ ?_
                      rotate_left
                      · show Act.put _ (some 18) _ = _
                        simp only [Act.put, List.setIfInBounds_toArray, List.set_cons_zero, List.set_cons_succ, i64_w, i32_w]
                        rfl
                      refine pure_ (i := 9) (N := some 22) (v := ?_) (a' := ?_) #[true, true, true, true, true, true, true, true, true, true, false, true, true, false, false, false] rfl rfl (any_of HT_.out (by kernel_rfl)) (fun _ _ _ h => h) (Or.inl ⟨by rfl, ?_⟩) ?_ ?_
                      rotate_left
                      · intro w'
                        go_simp
                        with_reducible rfl
                      rotate_left
                      · simp only [Act.put, List.setIfInBounds_toArray, List.set_cons_zero, List.set_cons_succ, i64_w, i32_w]
                        rfl
                      exact norm0_ (hJ0_4_5 (.slice (some adz_v216) y215.length co18, adz_v216, .slice (some ado21) y219.length co21, ado21) _ ⟨(by (with_reducible repeat (first | apply Kd.R_alloc | apply Kd.R_drewN | apply Kd.R_drew)); exact Kd.R_mono HO217.out (fun _ hk => hk.2)), (by (with_reducible repeat (first | apply Kd.R_alloc | apply Kd.R_drewN | apply Kd.R_drew)); exact Kd.R_mono HO221.out (fun _ hk => hk.2)), ⟨_, rfl⟩, ⟨_, rfl⟩, (pk BK214), (by repeat (first | (with_reducible first | exact HB.out | apply below_alloc | apply pw_below_drewN | apply below_drew1 | refine below_set ?_ GE214.out) | exact HB.out))⟩)
                    · skip
                      refine box_step ?hg (N := 7) ?hd (cs := #[.string (⟨#[]⟩ : ByteArray), .string (⟨#[]⟩ : ByteArray), .slice none 0 0, .int .i64 0]) (t := 35) ?hr ?_; (case hd => rfl); (case hg => rfl); (case hr => first | (go_simp; done) | (go_simp; rfl))
                      intro gb223 hg w19 hbox hb
                      have BK223 := Aside0.mk (hbox)
                      have GW223 := Aside0.mk ((by rw [hg]; exact (below_size (by repeat (first | (with_reducible first | exact HB.out | apply below_alloc | apply pw_below_drewN | apply below_drew1 | refine below_set ?_ GE214.out) | exact HB.out))) : w.heap.size ≤ gb223))
                      have GE223 := GW223
                      have NB214_223 := Aside0.mk ((ne_lt hg (pk BK214) : gb214 ≠ gb223))
                      have NB223_214 := Aside0.mk ((ne_gt hg (pk BK214) : gb223 ≠ gb214))
                      replace HO217 := Aside0.mk (Kd.R_below (by (with_reducible repeat (first | apply Kd.R_alloc | apply Kd.R_drewN | apply Kd.R_drew)); exact HO217.out) hb)
                      replace BK214 := Aside0.mk (blk_below (g := gb214) (pk BK214) hb)
                      replace HB := Aside0.mk (below_step (by repeat (first | (with_reducible first | exact HB.out | apply below_alloc | apply pw_below_drewN | apply below_drew1 | refine below_set ?_ GE214.out) | exact HB.out)) hb)
                      clear hb hbox hg
                      refine hK.out _ _ trivial (fun hHeld => ?_)
                      clear hK K
                      refine norm_ (a' := ?_) ?_ ?_
                      rotate_left
                      · show Act.put _ (some 7) _ = _
                        simp only [Act.put, List.setIfInBounds_toArray, List.set_cons_zero, List.set_cons_succ, i64_w, i32_w]
                        rfl
                      exact norm0_ (hJ0_4_14 (.slice (some adz_v216) y215.length co18, adz_v216, gb223) _ ⟨(by (with_reducible repeat (first | apply Kd.R_alloc | apply Kd.R_drewN | apply Kd.R_drew)); exact HO217.out), ⟨_, rfl⟩, (pk BK214), (pk BK223), GW223.out, GE223.out, NB214_223.out, NB223_214.out, (by repeat (first | (with_reducible first | exact HB.out | apply below_alloc | apply pw_below_drewN | apply below_drew1 | refine below_set ?_ GE214.out | refine below_set ?_ GE223.out) | exact HB.out))⟩)
                · skip
                  rintro ⟨v220, adz_v220, gb223⟩ w18 ⟨h0_, h1_, h2_, h3_, h4_, h5_, h6_, h7_, h8_⟩
                  have HO221 : Aside0 (Kd.R Kd.string 9 w18 w.heap.size (fun _ => True) v220 y219) := ⟨h0_⟩
                  have HA_HO221 : Aside0 (∃ c_, (v220 : Value) = .slice (some adz_v220) y219.length c_) := ⟨h1_⟩
                  have BK223 : Aside0 (w18.heap[gb223]? = some (.cells #[.string (⟨#[]⟩ : ByteArray), .string (⟨#[]⟩ : ByteArray), .slice none 0 0, .int .i64 0] 35 (0, 0))) := ⟨h3_⟩
                  have GW223 : Aside0 (w.heap.size ≤ gb223) := ⟨h4_⟩
                  have GE223 : Aside0 (w.heap.size ≤ gb223) := ⟨h5_⟩
                  have NB214_223 : Aside0 (gb214 ≠ gb223) := ⟨h6_⟩
                  have NB223_214 : Aside0 (gb223 ≠ gb214) := ⟨h7_⟩
                  replace BK214 := Aside0.mk h2_
                  replace HB : Aside0 (Below w.heap.size w w18) := ⟨h8_⟩
                  clear h0_ h1_ h2_ h3_ h4_ h5_ h6_ h7_ h8_
                  have hHeld := trivial
                  obtain ⟨co19, eo19⟩ := HA_HO221.out
                  clear HA_HO221
                  subst eo19
                  refine norm_ (a' := ?_) ?_ ?_
                  rotate_left
                  · simp only [putAll, Act.put, List.setIfInBounds_toArray, List.set_cons_zero, List.set_cons_succ]
                    rfl
                  refine one_ (i := 0) (N := some 13) #[true, true, true, false, false, true, true, true, true, true, true, true, true, false, true, false] rfl rfl (one_of HT_.out (by kernel_rfl)) (by decide) (fun K hK => ?_)
                  refine Kd.R_lit_step Kd.string _ 9 ?hg (N := 13) ?hd (xs := ([(⟨#[102, 114, 111, 110, 116]⟩ : ByteArray), (⟨#[98, 97, 99, 107]⟩ : ByteArray), (⟨#[114, 45, 49]⟩ : ByteArray)] : List ByteArray)) (inner := [.string (⟨#[102, 114, 111, 110, 116]⟩ : ByteArray), .string (⟨#[98, 97, 99, 107]⟩ : ByteArray), .string (⟨#[114, 45, 49]⟩ : ByteArray)]) (ok := fun _ => True) (okp := fun _ => True) ?hr ?hp (fun _ hk => hk) trivial (Below.refl _ _) (Nat.le_refl _) (by simp) ?_; (case hd => rfl); (case hg => rfl); (case hr => first | (go_simp; done) | (go_simp; rfl)); (case hp => exact (Reps.one (show Kd.M Kd.string _ _ _ (⟨#[102, 114, 111, 110, 116]⟩ : ByteArray) [.string (⟨#[102, 114, 111, 110, 116]⟩ : ByteArray)] from rfl) (Reps.one (show Kd.M Kd.string _ _ _ (⟨#[98, 97, 99, 107]⟩ : ByteArray) [.string (⟨#[98, 97, 99, 107]⟩ : ByteArray)] from rfl) (Reps.one (show Kd.M Kd.string _ _ _ (⟨#[114, 45, 49]⟩ : ByteArray) [.string (⟨#[114, 45, 49]⟩ : ByteArray)] from rfl) (Reps.none _ _)))))
                  intro v216 w20 ho21 hb hg_ hnew_
                  clear hg_ hnew_
                  (first | rw [← Ny215.out] at ho21 | (simp only [Int.reduceToNat] at ho21; rw [← Ny215.out] at ho21))
                  have HO217 := Aside0.mk (Kd.R_lower (Kd.R_new' ho21 (Kd.R_lt (by (with_reducible repeat (first | apply Kd.R_alloc | apply Kd.R_drewN | apply Kd.R_drew)); exact HO221.out))) (below_size (by repeat (first | (with_reducible first | exact HB.out | apply below_alloc | apply pw_below_drewN | apply below_drew1 | refine below_set ?_ GE214.out | refine below_set ?_ GE223.out) | exact HB.out))))
                  replace HO221 := Aside0.mk (Kd.R_elder' (by (with_reducible repeat (first | apply Kd.R_alloc | apply Kd.R_drewN | apply Kd.R_drew)); exact HO221.out) (Kd.R_base ho21) hb)
                  replace BK214 := Aside0.mk (blk_below (g := gb214) (pk BK214) hb)
                  replace BK223 := Aside0.mk (blk_below (g := gb223) (pk BK223) hb)
                  replace HB := Aside0.mk (below_step (by repeat (first | (with_reducible first | exact HB.out | apply below_alloc | apply pw_below_drewN | apply below_drew1 | refine below_set ?_ GE214.out | refine below_set ?_ GE223.out) | exact HB.out)) hb)
                  clear hb ho21
                  obtain ⟨Ao22, co22, eo22⟩ := Kd.R_slice HO217.out
                  subst eo22
                  obtain ⟨ado22, fo22, _⟩ := Kd.at_string (Kd.R_reads' HO217.out).2.2 0 (by decide) (by rw [Ny215.out]; simp)
                  cases fo22
                  refine hK.out _ _ trivial (fun hHeld => ?_)
                  clear hK K
                  refine norm_ (a' := ?_) ?_ ?_
                  rotate_left
                  · show Act.put _ (some 13) _ = _
                    simp only [Act.put, List.setIfInBounds_toArray, List.set_cons_zero, List.set_cons_succ, i64_w, i32_w]
                    rfl
                  refine pure_ (i := 3) (N := some 16) (v := ?_) (a' := ?_) #[true, true, true, true, false, true, true, true, true, true, true, true, true, false, true, false] rfl rfl (any_of HT_.out (by kernel_rfl)) (fun _ _ _ h => h) (Or.inl ⟨by rfl, ?_⟩) ?_ ?_
                  rotate_left
                  · intro w'
                    go_simp
                    with_reducible rfl
                  rotate_left
                  · simp only [Act.put, List.setIfInBounds_toArray, List.set_cons_zero, List.set_cons_succ, i64_w, i32_w]
                    rfl
                  exact norm0_ (hJ0_5_10_14 (.slice (some ado22) y215.length co22, ado22, .slice (some adz_v220) y219.length co19, adz_v220, gb223) _ ⟨(by (with_reducible repeat (first | apply Kd.R_alloc | apply Kd.R_drewN | apply Kd.R_drew)); exact Kd.R_mono HO217.out (fun _ hk => hk.2)), (by (with_reducible repeat (first | apply Kd.R_alloc | apply Kd.R_drewN | apply Kd.R_drew)); exact Kd.R_mono HO221.out (fun _ hk => hk.2)), ⟨_, rfl⟩, ⟨_, rfl⟩, (pk BK214), (pk BK223), GW223.out, GE223.out, NB214_223.out, NB223_214.out, (by repeat (first | (with_reducible first | exact HB.out | apply below_alloc | apply pw_below_drewN | apply below_drew1 | refine below_set ?_ GE214.out | refine below_set ?_ GE223.out) | exact HB.out))⟩)
              · skip
                rintro ⟨v216, adz_v216, v220, adz_v220, gb223⟩ w21 ⟨h0_, h1_, h2_, h3_, h4_, h5_, h6_, h7_, h8_, h9_, h10_⟩
                have HO217 : Aside0 (Kd.R Kd.string 9 w21 w.heap.size (fun k_ => some k_ ≠ (v220 : Value).ownBlock) v216 y215) := ⟨h0_⟩
                have HO221 : Aside0 (Kd.R Kd.string 9 w21 w.heap.size (fun k_ => some k_ ≠ (v216 : Value).ownBlock) v220 y219) := ⟨h1_⟩
                have HA_HO217 : Aside0 (∃ c_, (v216 : Value) = .slice (some adz_v216) y215.length c_) := ⟨h2_⟩
                have HA_HO221 : Aside0 (∃ c_, (v220 : Value) = .slice (some adz_v220) y219.length c_) := ⟨h3_⟩
                have BK223 : Aside0 (w21.heap[gb223]? = some (.cells #[.string (⟨#[]⟩ : ByteArray), .string (⟨#[]⟩ : ByteArray), .slice none 0 0, .int .i64 0] 35 (0, 0))) := ⟨h5_⟩
                have GW223 : Aside0 (w.heap.size ≤ gb223) := ⟨h6_⟩
                have GE223 : Aside0 (w.heap.size ≤ gb223) := ⟨h7_⟩
                have NB214_223 : Aside0 (gb214 ≠ gb223) := ⟨h8_⟩
                have NB223_214 : Aside0 (gb223 ≠ gb214) := ⟨h9_⟩
                replace BK214 := Aside0.mk h4_
                replace HB : Aside0 (Below w.heap.size w w21) := ⟨h10_⟩
                clear h0_ h1_ h2_ h3_ h4_ h5_ h6_ h7_ h8_ h9_ h10_
                have hHeld := trivial
                obtain ⟨co22, eo22⟩ := HA_HO217.out
                clear HA_HO217
                subst eo22
                obtain ⟨co23, eo23⟩ := HA_HO221.out
                clear HA_HO221
                subst eo23
                refine norm_ (a' := ?_) ?_ ?_
                rotate_left
                · simp only [putAll, Act.put, List.setIfInBounds_toArray, List.set_cons_zero, List.set_cons_succ]
                  rfl
                refine two_ (i := 4) (j := 10) (Ni := some 17) (Nj := some 23) #[true, true, true, true, true, true, true, true, true, true, false, true, true, false, true, false] #[true, true, true, true, false, true, true, true, true, true, true, true, true, false, true, false] rfl rfl rfl rfl (two_of HT_.out (by kernel_rfl)) (by decide) (by decide) (fun K hK => ?_) (fun K hK => ?_)
                · skip
                  (have p218 : 0 ≤ ((ji4) : Int) := of_decide_eq_true (by first | (with_reducible assumption) | assumption); have q218 : (ji4) < (y215.length : Int) := of_decide_eq_true (by first | (with_reducible assumption) | assumption); obtain ⟨ad218, e218, hx218_0⟩ := Kd.at_string (Kd.R_reads' HO217.out).2.2 (ji4) p218 q218; obtain rfl : adz_v216 = ad218 := (by injection e218))
                  with_reducible_and_instances refine value_ (w1 := ?_) (v := ?_) ?hw_ ?hN_ ?_ ?_
                  (case hw_ => rfl)
                  (case hN_ => rfl)
                  rotate_left 2
                  · go_simp
                    constructor
                    · rfl
                    · rfl
                  clear hx218_0
                  refine hK.out _ _ trivial (fun hHeld => ?_)
                  clear hK K
                  refine norm_ (a' := ?_) ?_ ?_
                  rotate_left
                  · show Act.put _ (some 17) _ = _
                    simp only [Act.put, List.setIfInBounds_toArray, List.set_cons_zero, List.set_cons_succ, i64_w, i32_w]
                    rfl
                  exact norm0_ (hJ0_4_5_14 (.slice (some adz_v216) y215.length co22, adz_v216, .slice (some adz_v220) y219.length co23, adz_v220, gb223) _ ⟨(by (with_reducible repeat (first | apply Kd.R_alloc | apply Kd.R_drewN | apply Kd.R_drew)); exact HO217.out), (by (with_reducible repeat (first | apply Kd.R_alloc | apply Kd.R_drewN | apply Kd.R_drew)); exact HO221.out), ⟨_, rfl⟩, ⟨_, rfl⟩, (pk BK214), (pk BK223), GW223.out, GE223.out, NB214_223.out, NB223_214.out, (by repeat (first | (with_reducible first | exact HB.out | apply below_alloc | apply pw_below_drewN | apply below_drew1 | refine below_set ?_ GE214.out | refine below_set ?_ GE223.out) | exact HB.out))⟩)
                · skip
                  (have p222 : 0 ≤ ((ji7) : Int) := of_decide_eq_true (by first | (with_reducible assumption) | assumption); have q222 : (ji7) < (y219.length : Int) := of_decide_eq_true (by first | (with_reducible assumption) | assumption); obtain ⟨ad222, e222, hx222_0⟩ := Kd.at_string (Kd.R_reads' HO221.out).2.2 (ji7) p222 q222; obtain rfl : adz_v220 = ad222 := (by injection e222))
                  with_reducible_and_instances refine value_ (w1 := ?_) (v := ?_) ?hw_ ?hN_ ?_ ?_
                  (case hw_ => rfl)
                  (case hN_ => rfl)
                  rotate_left 2
                  · go_simp
                    constructor
                    · rfl
                    · rfl
                  clear hx222_0
                  refine hK.out _ _ trivial (fun hHeld => ?_)
                  clear hK K
                  refine norm_ (a' := ?_) ?_ ?_
                  rotate_left
                  · show Act.put _ (some 23) _ = _
                    simp only [Act.put, List.setIfInBounds_toArray, List.set_cons_zero, List.set_cons_succ, i64_w, i32_w]
                    rfl
                  exact norm0_ (hJ0_5_10_14 (.slice (some adz_v216) y215.length co22, adz_v216, .slice (some adz_v220) y219.length co23, adz_v220, gb223) _ ⟨(by (with_reducible repeat (first | apply Kd.R_alloc | apply Kd.R_drewN | apply Kd.R_drew)); exact HO217.out), (by (with_reducible repeat (first | apply Kd.R_alloc | apply Kd.R_drewN | apply Kd.R_drew)); exact HO221.out), ⟨_, rfl⟩, ⟨_, rfl⟩, (pk BK214), (pk BK223), GW223.out, GE223.out, NB214_223.out, NB223_214.out, (by repeat (first | (with_reducible first | exact HB.out | apply below_alloc | apply pw_below_drewN | apply below_drew1 | refine below_set ?_ GE214.out | refine below_set ?_ GE223.out) | exact HB.out))⟩)
            · skip
              rintro ⟨v216, adz_v216, v220, adz_v220⟩ w20 ⟨h0_, h1_, h2_, h3_, h4_, h5_⟩
              have HO217 : Aside0 (Kd.R Kd.string 9 w20 w.heap.size (fun k_ => some k_ ≠ (v220 : Value).ownBlock) v216 y215) := ⟨h0_⟩
              have HO221 : Aside0 (Kd.R Kd.string 9 w20 w.heap.size (fun k_ => some k_ ≠ (v216 : Value).ownBlock) v220 y219) := ⟨h1_⟩
              have HA_HO217 : Aside0 (∃ c_, (v216 : Value) = .slice (some adz_v216) y215.length c_) := ⟨h2_⟩
              have HA_HO221 : Aside0 (∃ c_, (v220 : Value) = .slice (some adz_v220) y219.length c_) := ⟨h3_⟩
              replace BK214 := Aside0.mk h4_
              replace HB : Aside0 (Below w.heap.size w w20) := ⟨h5_⟩
              clear h0_ h1_ h2_ h3_ h4_ h5_
              have hHeld := trivial
              obtain ⟨co21, eo21⟩ := HA_HO217.out
              clear HA_HO217
              subst eo21
              obtain ⟨co22, eo22⟩ := HA_HO221.out
              clear HA_HO221
              subst eo22
              refine norm_ (a' := ?_) ?_ ?_
              rotate_left
              · simp only [putAll, Act.put, List.setIfInBounds_toArray, List.set_cons_zero, List.set_cons_succ]
                rfl
              refine two_ (i := 4) (j := 14) (Ni := some 17) (Nj := some 7) #[true, true, true, true, true, true, true, true, true, true, true, true, true, false, false, false] #[true, true, true, true, false, true, true, true, true, true, true, true, true, false, true, false] rfl rfl rfl rfl (two_of HT_.out (by kernel_rfl)) (by decide) (by decide) (fun K hK => ?_) (fun K hK => ?_)
              · skip
                (have p218 : 0 ≤ ((ji4) : Int) := of_decide_eq_true (by first | (with_reducible assumption) | assumption); have q218 : (ji4) < (y215.length : Int) := of_decide_eq_true (by first | (with_reducible assumption) | assumption); obtain ⟨ad218, e218, hx218_0⟩ := Kd.at_string (Kd.R_reads' HO217.out).2.2 (ji4) p218 q218; obtain rfl : adz_v216 = ad218 := (by injection e218))
                with_reducible_and_instances refine value_ (w1 := ?_) (v := ?_) ?hw_ ?hN_ ?_ ?_
                (case hw_ => rfl)
                (case hN_ => rfl)
                rotate_left 2
                · go_simp
                  constructor
                  · rfl
                  · rfl
                clear hx218_0
                refine hK.out _ _ trivial (fun hHeld => ?_)
                clear hK K
                refine norm_ (a' := ?_) ?_ ?_
                rotate_left
                · show Act.put _ (some 17) _ = _
                  simp only [Act.put, List.setIfInBounds_toArray, List.set_cons_zero, List.set_cons_succ, i64_w, i32_w]
                  rfl
                refine pure_ (i := 13) (N := some 26) (v := ?_) (a' := ?_) #[true, true, true, true, true, true, true, true, true, true, true, true, true, true, false, false] rfl rfl (any_of HT_.out (by kernel_rfl)) (fun _ _ _ h => h) (Or.inl ⟨by rfl, ?_⟩) ?_ ?_
                rotate_left
                · intro w'
                  go_simp
                  with_reducible rfl
                rotate_left
                · simp only [Act.put, List.setIfInBounds_toArray, List.set_cons_zero, List.set_cons_succ, i64_w, i32_w]
                  rfl
                exact norm0_ (hJ0_4_5_10 (.slice (some adz_v216) y215.length co21, adz_v216, .slice (some adz_v220) y219.length co22, adz_v220) _ ⟨(by (with_reducible repeat (first | apply Kd.R_alloc | apply Kd.R_drewN | apply Kd.R_drew)); exact HO217.out), (by (with_reducible repeat (first | apply Kd.R_alloc | apply Kd.R_drewN | apply Kd.R_drew)); exact HO221.out), ⟨_, rfl⟩, ⟨_, rfl⟩, (pk BK214), (by repeat (first | (with_reducible first | exact HB.out | apply below_alloc | apply pw_below_drewN | apply below_drew1 | refine below_set ?_ GE214.out) | exact HB.out))⟩)
              · skip
                refine box_step ?hg (N := 7) ?hd (cs := #[.string (⟨#[]⟩ : ByteArray), .string (⟨#[]⟩ : ByteArray), .slice none 0 0, .int .i64 0]) (t := 35) ?hr ?_; (case hd => rfl); (case hg => rfl); (case hr => first | (go_simp; done) | (go_simp; rfl))
                intro gb223 hg w23 hbox hb
                have BK223 := Aside0.mk (hbox)
                have GW223 := Aside0.mk ((by rw [hg]; exact (below_size (by repeat (first | (with_reducible first | exact HB.out | apply below_alloc | apply pw_below_drewN | apply below_drew1 | refine below_set ?_ GE214.out) | exact HB.out))) : w.heap.size ≤ gb223))
                have GE223 := GW223
                have NB214_223 := Aside0.mk ((ne_lt hg (pk BK214) : gb214 ≠ gb223))
                have NB223_214 := Aside0.mk ((ne_gt hg (pk BK214) : gb223 ≠ gb214))
                replace HO217 := Aside0.mk (Kd.R_below (by (with_reducible repeat (first | apply Kd.R_alloc | apply Kd.R_drewN | apply Kd.R_drew)); exact HO217.out) hb)
                replace HO221 := Aside0.mk (Kd.R_below (by (with_reducible repeat (first | apply Kd.R_alloc | apply Kd.R_drewN | apply Kd.R_drew)); exact HO221.out) hb)
                replace BK214 := Aside0.mk (blk_below (g := gb214) (pk BK214) hb)
                replace HB := Aside0.mk (below_step (by repeat (first | (with_reducible first | exact HB.out | apply below_alloc | apply pw_below_drewN | apply below_drew1 | refine below_set ?_ GE214.out) | exact HB.out)) hb)
                clear hb hbox hg
                refine hK.out _ _ trivial (fun hHeld => ?_)
                clear hK K
                refine norm_ (a' := ?_) ?_ ?_
                rotate_left
                · show Act.put _ (some 7) _ = _
                  simp only [Act.put, List.setIfInBounds_toArray, List.set_cons_zero, List.set_cons_succ, i64_w, i32_w]
                  rfl
                exact norm0_ (hJ0_5_10_14 (.slice (some adz_v216) y215.length co21, adz_v216, .slice (some adz_v220) y219.length co22, adz_v220, gb223) _ ⟨(by (with_reducible repeat (first | apply Kd.R_alloc | apply Kd.R_drewN | apply Kd.R_drew)); exact HO217.out), (by (with_reducible repeat (first | apply Kd.R_alloc | apply Kd.R_drewN | apply Kd.R_drew)); exact HO221.out), ⟨_, rfl⟩, ⟨_, rfl⟩, (pk BK214), (pk BK223), GW223.out, GE223.out, NB214_223.out, NB223_214.out, (by repeat (first | (with_reducible first | exact HB.out | apply below_alloc | apply pw_below_drewN | apply below_drew1 | refine below_set ?_ GE214.out | refine below_set ?_ GE223.out) | exact HB.out))⟩)
          · skip
            rintro ⟨v216, adz_v216, gb223⟩ w18 ⟨h0_, h1_, h2_, h3_, h4_, h5_, h6_, h7_, h8_⟩
            have HO217 : Aside0 (Kd.R Kd.string 9 w18 w.heap.size (fun _ => True) v216 y215) := ⟨h0_⟩
            have HA_HO217 : Aside0 (∃ c_, (v216 : Value) = .slice (some adz_v216) y215.length c_) := ⟨h1_⟩
            have BK223 : Aside0 (w18.heap[gb223]? = some (.cells #[.string (⟨#[]⟩ : ByteArray), .string (⟨#[]⟩ : ByteArray), .slice none 0 0, .int .i64 0] 35 (0, 0))) := ⟨h3_⟩
            have GW223 : Aside0 (w.heap.size ≤ gb223) := ⟨h4_⟩
            have GE223 : Aside0 (w.heap.size ≤ gb223) := ⟨h5_⟩
            have NB214_223 : Aside0 (gb214 ≠ gb223) := ⟨h6_⟩
            have NB223_214 : Aside0 (gb223 ≠ gb214) := ⟨h7_⟩
            replace BK214 := Aside0.mk h2_
            replace HB : Aside0 (Below w.heap.size w w18) := ⟨h8_⟩
            clear h0_ h1_ h2_ h3_ h4_ h5_ h6_ h7_ h8_
            have hHeld := trivial
            obtain ⟨co19, eo19⟩ := HA_HO217.out
            clear HA_HO217
            subst eo19
            refine norm_ (a' := ?_) ?_ ?_
            rotate_left
            · simp only [putAll, Act.put, List.setIfInBounds_toArray, List.set_cons_zero, List.set_cons_succ]
              rfl
            refine one_ (i := 5) (N := some 18) #[true, true, true, true, true, true, true, true, true, false, false, true, true, false, true, false] rfl rfl (one_of HT_.out (by kernel_rfl)) (by decide) (fun K hK => ?_)
            refine Kd.R_lit_step Kd.string _ 9 ?hg (N := 18) ?hd (xs := ([(⟨#[119, 101, 98]⟩ : ByteArray), (⟨#[97, 112, 105]⟩ : ByteArray), (⟨#[97, 45, 98]⟩ : ByteArray)] : List ByteArray)) (inner := [.string (⟨#[119, 101, 98]⟩ : ByteArray), .string (⟨#[97, 112, 105]⟩ : ByteArray), .string (⟨#[97, 45, 98]⟩ : ByteArray)]) (ok := fun _ => True) (okp := fun _ => True) ?hr ?hp (fun _ hk => hk) trivial (Below.refl _ _) (Nat.le_refl _) (by simp) ?_; (case hd => rfl); (case hg => rfl); (case hr => first | (go_simp; done) | (go_simp; rfl)); (case hp => exact (Reps.one (show Kd.M Kd.string _ _ _ (⟨#[119, 101, 98]⟩ : ByteArray) [.string (⟨#[119, 101, 98]⟩ : ByteArray)] from rfl) (Reps.one (show Kd.M Kd.string _ _ _ (⟨#[97, 112, 105]⟩ : ByteArray) [.string (⟨#[97, 112, 105]⟩ : ByteArray)] from rfl) (Reps.one (show Kd.M Kd.string _ _ _ (⟨#[97, 45, 98]⟩ : ByteArray) [.string (⟨#[97, 45, 98]⟩ : ByteArray)] from rfl) (Reps.none _ _)))))
            intro v220 w20 ho21 hb hg_ hnew_
            clear hg_ hnew_
            (first | rw [← Ny219.out] at ho21 | (simp only [Int.reduceToNat] at ho21; rw [← Ny219.out] at ho21))
            have HO221 := Aside0.mk (Kd.R_lower (Kd.R_new' ho21 (Kd.R_lt (by (with_reducible repeat (first | apply Kd.R_alloc | apply Kd.R_drewN | apply Kd.R_drew)); exact HO217.out))) (below_size (by repeat (first | (with_reducible first | exact HB.out | apply below_alloc | apply pw_below_drewN | apply below_drew1 | refine below_set ?_ GE214.out | refine below_set ?_ GE223.out) | exact HB.out))))
            replace HO217 := Aside0.mk (Kd.R_elder' (by (with_reducible repeat (first | apply Kd.R_alloc | apply Kd.R_drewN | apply Kd.R_drew)); exact HO217.out) (Kd.R_base ho21) hb)
            replace BK214 := Aside0.mk (blk_below (g := gb214) (pk BK214) hb)
            replace BK223 := Aside0.mk (blk_below (g := gb223) (pk BK223) hb)
            replace HB := Aside0.mk (below_step (by repeat (first | (with_reducible first | exact HB.out | apply below_alloc | apply pw_below_drewN | apply below_drew1 | refine below_set ?_ GE214.out | refine below_set ?_ GE223.out) | exact HB.out)) hb)
            clear hb ho21
            obtain ⟨Ao22, co22, eo22⟩ := Kd.R_slice HO221.out
            subst eo22
            obtain ⟨ado22, fo22, _⟩ := Kd.at_string (Kd.R_reads' HO221.out).2.2 0 (by decide) (by rw [Ny219.out]; simp)
            cases fo22
            refine hK.out _ _ trivial (fun hHeld => ?_)
            clear hK K
            refine norm_ (a' := ?_) ?_ ?_
            rotate_left
            · show Act.put _ (some 18) _ = _
              simp only [Act.put, List.setIfInBounds_toArray, List.set_cons_zero, List.set_cons_succ, i64_w, i32_w]
              rfl
            refine pure_ (i := 9) (N := some 22) (v := ?_) (a' := ?_) #[true, true, true, true, true, true, true, true, true, true, false, true, true, false, true, false] rfl rfl (any_of HT_.out (by kernel_rfl)) (fun _ _ _ h => h) (Or.inl ⟨by rfl, ?_⟩) ?_ ?_
            rotate_left
            · intro w'
              go_simp
              with_reducible rfl
            rotate_left
            · simp only [Act.put, List.setIfInBounds_toArray, List.set_cons_zero, List.set_cons_succ, i64_w, i32_w]
              rfl
            exact norm0_ (hJ0_4_5_14 (.slice (some adz_v216) y215.length co19, adz_v216, .slice (some ado22) y219.length co22, ado22, gb223) _ ⟨(by (with_reducible repeat (first | apply Kd.R_alloc | apply Kd.R_drewN | apply Kd.R_drew)); exact Kd.R_mono HO217.out (fun _ hk => hk.2)), (by (with_reducible repeat (first | apply Kd.R_alloc | apply Kd.R_drewN | apply Kd.R_drew)); exact Kd.R_mono HO221.out (fun _ hk => hk.2)), ⟨_, rfl⟩, ⟨_, rfl⟩, (pk BK214), (pk BK223), GW223.out, GE223.out, NB214_223.out, NB223_214.out, (by repeat (first | (with_reducible first | exact HB.out | apply below_alloc | apply pw_below_drewN | apply below_drew1 | refine below_set ?_ GE214.out | refine below_set ?_ GE223.out) | exact HB.out))⟩)
        · skip
          rintro ⟨v216, adz_v216, v220, adz_v220⟩ w20 ⟨h0_, h1_, h2_, h3_, h4_, h5_⟩
          have HO217 : Aside0 (Kd.R Kd.string 9 w20 w.heap.size (fun k_ => some k_ ≠ (v220 : Value).ownBlock) v216 y215) := ⟨h0_⟩
          have HO221 : Aside0 (Kd.R Kd.string 9 w20 w.heap.size (fun k_ => some k_ ≠ (v216 : Value).ownBlock) v220 y219) := ⟨h1_⟩
          have HA_HO217 : Aside0 (∃ c_, (v216 : Value) = .slice (some adz_v216) y215.length c_) := ⟨h2_⟩
          have HA_HO221 : Aside0 (∃ c_, (v220 : Value) = .slice (some adz_v220) y219.length c_) := ⟨h3_⟩
          replace BK214 := Aside0.mk h4_
          replace HB : Aside0 (Below w.heap.size w w20) := ⟨h5_⟩
          clear h0_ h1_ h2_ h3_ h4_ h5_
          have hHeld := trivial
          obtain ⟨co21, eo21⟩ := HA_HO217.out
          clear HA_HO217
          subst eo21
          obtain ⟨co22, eo22⟩ := HA_HO221.out
          clear HA_HO221
          subst eo22
          refine norm_ (a' := ?_) ?_ ?_
          rotate_left
          · simp only [putAll, Act.put, List.setIfInBounds_toArray, List.set_cons_zero, List.set_cons_succ]
            rfl
          refine two_ (i := 10) (j := 14) (Ni := some 23) (Nj := some 7) #[true, true, true, true, true, true, true, true, true, true, true, true, true, false, false, false] #[true, true, true, true, true, true, true, true, true, true, false, true, true, false, true, false] rfl rfl rfl rfl (two_of HT_.out (by kernel_rfl)) (by decide) (by decide) (fun K hK => ?_) (fun K hK => ?_)
          · skip
            (have p222 : 0 ≤ ((ji7) : Int) := of_decide_eq_true (by first | (with_reducible assumption) | assumption); have q222 : (ji7) < (y219.length : Int) := of_decide_eq_true (by first | (with_reducible assumption) | assumption); obtain ⟨ad222, e222, hx222_0⟩ := Kd.at_string (Kd.R_reads' HO221.out).2.2 (ji7) p222 q222; obtain rfl : adz_v220 = ad222 := (by injection e222))
            with_reducible_and_instances refine value_ (w1 := ?_) (v := ?_) ?hw_ ?hN_ ?_ ?_
            (case hw_ => rfl)
            (case hN_ => rfl)
            rotate_left 2
            · go_simp
              constructor
              · rfl
              · rfl
            clear hx222_0
            refine hK.out _ _ trivial (fun hHeld => ?_)
            clear hK K
            refine norm_ (a' := ?_) ?_ ?_
            rotate_left
            · show Act.put _ (some 23) _ = _
              simp only [Act.put, List.setIfInBounds_toArray, List.set_cons_zero, List.set_cons_succ, i64_w, i32_w]
              rfl
            refine pure_ (i := 13) (N := some 26) (v := ?_) (a' := ?_) #[true, true, true, true, true, true, true, true, true, true, true, true, true, true, false, false] rfl rfl (any_of HT_.out (by kernel_rfl)) (fun _ _ _ h => h) (Or.inl ⟨by rfl, ?_⟩) ?_ ?_
            rotate_left
            · intro w'
              go_simp
              with_reducible rfl
            rotate_left
            · simp only [Act.put, List.setIfInBounds_toArray, List.set_cons_zero, List.set_cons_succ, i64_w, i32_w]
              rfl
            exact norm0_ (hJ0_4_5_10 (.slice (some adz_v216) y215.length co21, adz_v216, .slice (some adz_v220) y219.length co22, adz_v220) _ ⟨(by (with_reducible repeat (first | apply Kd.R_alloc | apply Kd.R_drewN | apply Kd.R_drew)); exact HO217.out), (by (with_reducible repeat (first | apply Kd.R_alloc | apply Kd.R_drewN | apply Kd.R_drew)); exact HO221.out), ⟨_, rfl⟩, ⟨_, rfl⟩, (pk BK214), (by repeat (first | (with_reducible first | exact HB.out | apply below_alloc | apply pw_below_drewN | apply below_drew1 | refine below_set ?_ GE214.out) | exact HB.out))⟩)
          · skip
            refine box_step ?hg (N := 7) ?hd (cs := #[.string (⟨#[]⟩ : ByteArray), .string (⟨#[]⟩ : ByteArray), .slice none 0 0, .int .i64 0]) (t := 35) ?hr ?_; (case hd => rfl); (case hg => rfl); (case hr => first | (go_simp; done) | (go_simp; rfl))
            intro gb223 hg w23 hbox hb
            have BK223 := Aside0.mk (hbox)
            have GW223 := Aside0.mk ((by rw [hg]; exact (below_size (by repeat (first | (with_reducible first | exact HB.out | apply below_alloc | apply pw_below_drewN | apply below_drew1 | refine below_set ?_ GE214.out) | exact HB.out))) : w.heap.size ≤ gb223))
            have GE223 := GW223
            have NB214_223 := Aside0.mk ((ne_lt hg (pk BK214) : gb214 ≠ gb223))
            have NB223_214 := Aside0.mk ((ne_gt hg (pk BK214) : gb223 ≠ gb214))
            replace HO217 := Aside0.mk (Kd.R_below (by (with_reducible repeat (first | apply Kd.R_alloc | apply Kd.R_drewN | apply Kd.R_drew)); exact HO217.out) hb)
            replace HO221 := Aside0.mk (Kd.R_below (by (with_reducible repeat (first | apply Kd.R_alloc | apply Kd.R_drewN | apply Kd.R_drew)); exact HO221.out) hb)
            replace BK214 := Aside0.mk (blk_below (g := gb214) (pk BK214) hb)
            replace HB := Aside0.mk (below_step (by repeat (first | (with_reducible first | exact HB.out | apply below_alloc | apply pw_below_drewN | apply below_drew1 | refine below_set ?_ GE214.out) | exact HB.out)) hb)
            clear hb hbox hg
            refine hK.out _ _ trivial (fun hHeld => ?_)
            clear hK K
            refine norm_ (a' := ?_) ?_ ?_
            rotate_left
            · show Act.put _ (some 7) _ = _
              simp only [Act.put, List.setIfInBounds_toArray, List.set_cons_zero, List.set_cons_succ, i64_w, i32_w]
              rfl
            exact norm0_ (hJ0_4_5_14 (.slice (some adz_v216) y215.length co21, adz_v216, .slice (some adz_v220) y219.length co22, adz_v220, gb223) _ ⟨(by (with_reducible repeat (first | apply Kd.R_alloc | apply Kd.R_drewN | apply Kd.R_drew)); exact HO217.out), (by (with_reducible repeat (first | apply Kd.R_alloc | apply Kd.R_drewN | apply Kd.R_drew)); exact HO221.out), ⟨_, rfl⟩, ⟨_, rfl⟩, (pk BK214), (pk BK223), GW223.out, GE223.out, NB214_223.out, NB223_214.out, (by repeat (first | (with_reducible first | exact HB.out | apply below_alloc | apply pw_below_drewN | apply below_drew1 | refine below_set ?_ GE214.out | refine below_set ?_ GE223.out) | exact HB.out))⟩)
      · skip
        rintro ⟨v216, adz_v216, v220, adz_v220, gb223⟩ w21 ⟨h0_, h1_, h2_, h3_, h4_, h5_, h6_, h7_, h8_, h9_, h10_⟩
        have HO217 : Aside0 (Kd.R Kd.string 9 w21 w.heap.size (fun k_ => some k_ ≠ (v220 : Value).ownBlock) v216 y215) := ⟨h0_⟩
        have HO221 : Aside0 (Kd.R Kd.string 9 w21 w.heap.size (fun k_ => some k_ ≠ (v216 : Value).ownBlock) v220 y219) := ⟨h1_⟩
        have HA_HO217 : Aside0 (∃ c_, (v216 : Value) = .slice (some adz_v216) y215.length c_) := ⟨h2_⟩
        have HA_HO221 : Aside0 (∃ c_, (v220 : Value) = .slice (some adz_v220) y219.length c_) := ⟨h3_⟩
        have BK223 : Aside0 (w21.heap[gb223]? = some (.cells #[.string (⟨#[]⟩ : ByteArray), .string (⟨#[]⟩ : ByteArray), .slice none 0 0, .int .i64 0] 35 (0, 0))) := ⟨h5_⟩
        have GW223 : Aside0 (w.heap.size ≤ gb223) := ⟨h6_⟩
        have GE223 : Aside0 (w.heap.size ≤ gb223) := ⟨h7_⟩
        have NB214_223 : Aside0 (gb214 ≠ gb223) := ⟨h8_⟩
        have NB223_214 : Aside0 (gb223 ≠ gb214) := ⟨h9_⟩
        replace BK214 := Aside0.mk h4_
        replace HB : Aside0 (Below w.heap.size w w21) := ⟨h10_⟩
        clear h0_ h1_ h2_ h3_ h4_ h5_ h6_ h7_ h8_ h9_ h10_
        have hHeld := trivial
        obtain ⟨co22, eo22⟩ := HA_HO217.out
        clear HA_HO217
        subst eo22
        obtain ⟨co23, eo23⟩ := HA_HO221.out
        clear HA_HO221
        subst eo23
        refine norm_ (a' := ?_) ?_ ?_
        rotate_left
        · simp only [putAll, Act.put, List.setIfInBounds_toArray, List.set_cons_zero, List.set_cons_succ]
          rfl
        refine one_ (i := 4) (N := some 17) #[true, true, true, true, true, true, true, true, true, true, true, true, true, false, true, false] rfl rfl (one_of HT_.out (by kernel_rfl)) (by decide) (fun K hK => ?_)
        (have p218 : 0 ≤ ((ji4) : Int) := of_decide_eq_true (by first | (with_reducible assumption) | assumption); have q218 : (ji4) < (y215.length : Int) := of_decide_eq_true (by first | (with_reducible assumption) | assumption); obtain ⟨ad218, e218, hx218_0⟩ := Kd.at_string (Kd.R_reads' HO217.out).2.2 (ji4) p218 q218; obtain rfl : adz_v216 = ad218 := (by injection e218))
        with_reducible_and_instances refine value_ (w1 := ?_) (v := ?_) ?hw_ ?hN_ ?_ ?_
        (case hw_ => rfl)
        (case hN_ => rfl)
        rotate_left 2
        · go_simp
          constructor
          · rfl
          · rfl
        clear hx218_0
        refine hK.out _ _ trivial (fun hHeld => ?_)
        clear hK K
        refine norm_ (a' := ?_) ?_ ?_
        rotate_left
        · show Act.put _ (some 17) _ = _
          simp only [Act.put, List.setIfInBounds_toArray, List.set_cons_zero, List.set_cons_succ, i64_w, i32_w]
          rfl
        refine pure_ (i := 13) (N := some 26) (v := ?_) (a' := ?_) #[true, true, true, true, true, true, true, true, true, true, true, true, true, true, true, false] rfl rfl (any_of HT_.out (by kernel_rfl)) (fun _ _ _ h => h) (Or.inl ⟨by rfl, ?_⟩) ?_ ?_
        rotate_left
        · intro w'
          go_simp
          with_reducible rfl
        rotate_left
        · simp only [Act.put, List.setIfInBounds_toArray, List.set_cons_zero, List.set_cons_succ, i64_w, i32_w]
          rfl
        exact norm0_ (hJ0_4_5_10_14 (.slice (some adz_v216) y215.length co22, adz_v216, .slice (some adz_v220) y219.length co23, adz_v220, gb223) _ ⟨(by (with_reducible repeat (first | apply Kd.R_alloc | apply Kd.R_drewN | apply Kd.R_drew)); exact HO217.out), (by (with_reducible repeat (first | apply Kd.R_alloc | apply Kd.R_drewN | apply Kd.R_drew)); exact HO221.out), ⟨_, rfl⟩, ⟨_, rfl⟩, (pk BK214), (pk BK223), GW223.out, GE223.out, NB214_223.out, NB223_214.out, (by repeat (first | (with_reducible first | exact HB.out | apply below_alloc | apply pw_below_drewN | apply below_drew1 | refine below_set ?_ GE214.out | refine below_set ?_ GE223.out) | exact HB.out))⟩)
    · skip
      rintro ⟨v216, adz_v216, v220, adz_v220, gb223⟩ w21 ⟨h0_, h1_, h2_, h3_, h4_, h5_, h6_, h7_, h8_, h9_, h10_⟩
      have HO217 : Aside0 (Kd.R Kd.string 9 w21 w.heap.size (fun k_ => some k_ ≠ (v220 : Value).ownBlock) v216 y215) := ⟨h0_⟩
      have HO221 : Aside0 (Kd.R Kd.string 9 w21 w.heap.size (fun k_ => some k_ ≠ (v216 : Value).ownBlock) v220 y219) := ⟨h1_⟩
      have HA_HO217 : Aside0 (∃ c_, (v216 : Value) = .slice (some adz_v216) y215.length c_) := ⟨h2_⟩
      have HA_HO221 : Aside0 (∃ c_, (v220 : Value) = .slice (some adz_v220) y219.length c_) := ⟨h3_⟩
      have BK223 : Aside0 (w21.heap[gb223]? = some (.cells #[.string (⟨#[]⟩ : ByteArray), .string (⟨#[]⟩ : ByteArray), .slice none 0 0, .int .i64 0] 35 (0, 0))) := ⟨h5_⟩
      have GW223 : Aside0 (w.heap.size ≤ gb223) := ⟨h6_⟩
      have GE223 : Aside0 (w.heap.size ≤ gb223) := ⟨h7_⟩
      have NB214_223 : Aside0 (gb214 ≠ gb223) := ⟨h8_⟩
      have NB223_214 : Aside0 (gb223 ≠ gb214) := ⟨h9_⟩
      replace BK214 := Aside0.mk h4_
      replace HB : Aside0 (Below w.heap.size w w21) := ⟨h10_⟩
      clear h0_ h1_ h2_ h3_ h4_ h5_ h6_ h7_ h8_ h9_ h10_
      have hHeld := trivial
      obtain ⟨co22, eo22⟩ := HA_HO217.out
      clear HA_HO217
      subst eo22
      obtain ⟨co23, eo23⟩ := HA_HO221.out
      clear HA_HO221
      subst eo23
      refine norm_ (a' := ?_) ?_ ?_
      rotate_left
      · simp only [putAll, Act.put, List.setIfInBounds_toArray, List.set_cons_zero, List.set_cons_succ]
        rfl
      refine one_ (i := 10) (N := some 23) #[true, true, true, true, true, true, true, true, true, true, true, true, true, false, true, false] rfl rfl (one_of HT_.out (by kernel_rfl)) (by decide) (fun K hK => ?_)
      (have p222 : 0 ≤ ((ji7) : Int) := of_decide_eq_true (by first | (with_reducible assumption) | assumption); have q222 : (ji7) < (y219.length : Int) := of_decide_eq_true (by first | (with_reducible assumption) | assumption); obtain ⟨ad222, e222, hx222_0⟩ := Kd.at_string (Kd.R_reads' HO221.out).2.2 (ji7) p222 q222; obtain rfl : adz_v220 = ad222 := (by injection e222))
      with_reducible_and_instances refine value_ (w1 := ?_) (v := ?_) ?hw_ ?hN_ ?_ ?_
      (case hw_ => rfl)
      (case hN_ => rfl)
      rotate_left 2
      · go_simp
        constructor
        · rfl
        · rfl
      clear hx222_0
      refine hK.out _ _ trivial (fun hHeld => ?_)
      clear hK K
      refine norm_ (a' := ?_) ?_ ?_
      rotate_left
      · show Act.put _ (some 23) _ = _
        simp only [Act.put, List.setIfInBounds_toArray, List.set_cons_zero, List.set_cons_succ, i64_w, i32_w]
        rfl
      refine pure_ (i := 13) (N := some 26) (v := ?_) (a' := ?_) #[true, true, true, true, true, true, true, true, true, true, true, true, true, true, true, false] rfl rfl (any_of HT_.out (by kernel_rfl)) (fun _ _ _ h => h) (Or.inl ⟨by rfl, ?_⟩) ?_ ?_
      rotate_left
      · intro w'
        go_simp
        with_reducible rfl
      rotate_left
      · simp only [Act.put, List.setIfInBounds_toArray, List.set_cons_zero, List.set_cons_succ, i64_w, i32_w]
        rfl
      exact norm0_ (hJ0_4_5_10_14 (.slice (some adz_v216) y215.length co22, adz_v216, .slice (some adz_v220) y219.length co23, adz_v220, gb223) _ ⟨(by (with_reducible repeat (first | apply Kd.R_alloc | apply Kd.R_drewN | apply Kd.R_drew)); exact HO217.out), (by (with_reducible repeat (first | apply Kd.R_alloc | apply Kd.R_drewN | apply Kd.R_drew)); exact HO221.out), ⟨_, rfl⟩, ⟨_, rfl⟩, (pk BK214), (pk BK223), GW223.out, GE223.out, NB214_223.out, NB223_214.out, (by repeat (first | (with_reducible first | exact HB.out | apply below_alloc | apply pw_below_drewN | apply below_drew1 | refine below_set ?_ GE214.out | refine below_set ?_ GE223.out) | exact HB.out))⟩)
  · skip
    rintro ⟨v216, adz_v216, v220, adz_v220⟩ w20 ⟨h0_, h1_, h2_, h3_, h4_, h5_⟩
    have HO217 : Aside0 (Kd.R Kd.string 9 w20 w.heap.size (fun k_ => some k_ ≠ (v220 : Value).ownBlock) v216 y215) := ⟨h0_⟩
    have HO221 : Aside0 (Kd.R Kd.string 9 w20 w.heap.size (fun k_ => some k_ ≠ (v216 : Value).ownBlock) v220 y219) := ⟨h1_⟩
    have HA_HO217 : Aside0 (∃ c_, (v216 : Value) = .slice (some adz_v216) y215.length c_) := ⟨h2_⟩
    have HA_HO221 : Aside0 (∃ c_, (v220 : Value) = .slice (some adz_v220) y219.length c_) := ⟨h3_⟩
    replace BK214 := Aside0.mk h4_
    replace HB : Aside0 (Below w.heap.size w w20) := ⟨h5_⟩
    clear h0_ h1_ h2_ h3_ h4_ h5_
    have hHeld := trivial
    obtain ⟨co21, eo21⟩ := HA_HO217.out
    clear HA_HO217
    subst eo21
    obtain ⟨co22, eo22⟩ := HA_HO221.out
    clear HA_HO221
    subst eo22
    refine norm_ (a' := ?_) ?_ ?_
    rotate_left
    · simp only [putAll, Act.put, List.setIfInBounds_toArray, List.set_cons_zero, List.set_cons_succ]
      rfl
    refine one_ (i := 14) (N := some 7) #[true, true, true, true, true, true, true, true, true, true, true, true, true, true, true, false] rfl rfl (one_of HT_.out (by kernel_rfl)) (by decide) (fun K hK => ?_)
    refine box_step ?hg (N := 7) ?hd (cs := #[.string (⟨#[]⟩ : ByteArray), .string (⟨#[]⟩ : ByteArray), .slice none 0 0, .int .i64 0]) (t := 35) ?hr ?_; (case hd => rfl); (case hg => rfl); (case hr => first | (go_simp; done) | (go_simp; rfl))
    intro gb223 hg w23 hbox hb
    have BK223 := Aside0.mk (hbox)
    have GW223 := Aside0.mk ((by rw [hg]; exact (below_size (by repeat (first | (with_reducible first | exact HB.out | apply below_alloc | apply pw_below_drewN | apply below_drew1 | refine below_set ?_ GE214.out) | exact HB.out))) : w.heap.size ≤ gb223))
    have GE223 := GW223
    have NB214_223 := Aside0.mk ((ne_lt hg (pk BK214) : gb214 ≠ gb223))
    have NB223_214 := Aside0.mk ((ne_gt hg (pk BK214) : gb223 ≠ gb214))
    replace HO217 := Aside0.mk (Kd.R_below (by (with_reducible repeat (first | apply Kd.R_alloc | apply Kd.R_drewN | apply Kd.R_drew)); exact HO217.out) hb)
    replace HO221 := Aside0.mk (Kd.R_below (by (with_reducible repeat (first | apply Kd.R_alloc | apply Kd.R_drewN | apply Kd.R_drew)); exact HO221.out) hb)
    replace BK214 := Aside0.mk (blk_below (g := gb214) (pk BK214) hb)
    replace HB := Aside0.mk (below_step (by repeat (first | (with_reducible first | exact HB.out | apply below_alloc | apply pw_below_drewN | apply below_drew1 | refine below_set ?_ GE214.out) | exact HB.out)) hb)
    clear hb hbox hg
    refine hK.out _ _ trivial (fun hHeld => ?_)
    clear hK K
    refine norm_ (a' := ?_) ?_ ?_
    rotate_left
    · show Act.put _ (some 7) _ = _
      simp only [Act.put, List.setIfInBounds_toArray, List.set_cons_zero, List.set_cons_succ, i64_w, i32_w]
      rfl
    exact norm0_ (hJ0_4_5_10_14 (.slice (some adz_v216) y215.length co21, adz_v216, .slice (some adz_v220) y219.length co22, adz_v220, gb223) _ ⟨(by (with_reducible repeat (first | apply Kd.R_alloc | apply Kd.R_drewN | apply Kd.R_drew)); exact HO217.out), (by (with_reducible repeat (first | apply Kd.R_alloc | apply Kd.R_drewN | apply Kd.R_drew)); exact HO221.out), ⟨_, rfl⟩, ⟨_, rfl⟩, (pk BK214), (pk BK223), GW223.out, GE223.out, NB214_223.out, NB223_214.out, (by repeat (first | (with_reducible first | exact HB.out | apply below_alloc | apply pw_below_drewN | apply below_drew1 | refine below_set ?_ GE214.out | refine below_set ?_ GE223.out) | exact HB.out))⟩)
end Go.Proofs.YthdpnbfjpbiieaaDoor.Ma
