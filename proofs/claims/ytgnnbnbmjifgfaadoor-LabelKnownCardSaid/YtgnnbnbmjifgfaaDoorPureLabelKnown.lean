/- The fourteen answers that LabelKnown lists are just these, whichever is asked for. -/
import Derived.Test.YtgnnbnbmjifgfaaDoorMax52
import Derived.Test.YtgnnbnbmjifgfaaDoorPlain
namespace Go.Proofs.YtgnnbnbmjifgfaaDoor.Pure
open Go.RowKit Go.Proofs.YtgnnbnbmjifgfaaDoor.Ma Go.Proofs.YtgnnbnbmjifgfaaDoorW.PrintWords Go.Proofs.YtgnnbnbmjifgfaaDoorW.PrintLast Go.Proofs.YtgnnbnbmjifgfaaDoor.Plain

theorem known_j0 (k : Nat) (x3 : List ByteArray) (x4 : List Bool) (x5 : Int) (x7 : List Int) (x8 : ByteArray) (x9 : Int) (x10 : Bool)
    (h1 : 0 ≤ x5) (h2 : x5 < (x3.length : Int)) (h3 : x5 < (x4.length : Int)) (h4 : x5 < (x7.length : Int))
    (h5 : (shortL (rdOf ByteArray.empty x3 x5).data.toList 16 == rdOf false x4 x5) = true) (h6 : x9 = rd x7 x5) (h7 : (x10 == decide (rd x7 x5 > 0)) = true) (h8 : x10 = true ∨ x8.data.toList = []) :
    damperlaw1_LabelKnown.j0 (k + 1) x3 x4 x5 x7 x8 x9 x10 = some true := by
  rw [damperlaw1_LabelKnown.j0, if_pos h1, if_pos h2, name_eq, Option.bind_some, if_pos h3, if_pos h5, if_pos h4, if_pos h6, if_pos h7]
  by_cases h : x10 = true
  · rw [if_pos h]
  · rw [if_neg h, Lib.toList_data, h8.resolve_left h]; rfl
def names : List ByteArray := [(⟨#[97]⟩ : ByteArray), (⟨#[97, 49]⟩ : ByteArray), (⟨#[119, 101, 98, 45, 97, 112, 112]⟩ : ByteArray), (⟨#[97, 98, 99, 100, 101, 102, 103, 104, 105, 106, 107, 108, 109, 110, 111, 112]⟩ : ByteArray), (⟨#[]⟩ : ByteArray), (⟨#[49, 97]⟩ : ByteArray), (⟨#[45, 97]⟩ : ByteArray), (⟨#[97, 45]⟩ : ByteArray), (⟨#[65]⟩ : ByteArray), (⟨#[97, 95, 98]⟩ : ByteArray), (⟨#[97, 98, 99, 100, 101, 102, 103, 104, 105, 106, 107, 108, 109, 110, 111, 112, 113]⟩ : ByteArray), (⟨#[97, 32, 98]⟩ : ByteArray), (⟨#[97, 45, 45, 98]⟩ : ByteArray), (⟨#[122, 57, 45, 48]⟩ : ByteArray)]
def revs : List ByteArray := [(⟨#[97, 45, 49]⟩ : ByteArray), (⟨#[97, 45, 98, 45, 49, 50]⟩ : ByteArray), (⟨#[97, 45, 57, 57, 57, 57, 57, 57]⟩ : ByteArray), (⟨#[97, 45, 49, 48, 48, 48, 48, 48, 48]⟩ : ByteArray), (⟨#[97, 45, 48]⟩ : ByteArray), (⟨#[97, 45, 48, 49]⟩ : ByteArray), (⟨#[97]⟩ : ByteArray), (⟨#[97, 49]⟩ : ByteArray), (⟨#[45, 49]⟩ : ByteArray), (⟨#[97, 45, 45, 49]⟩ : ByteArray), (⟨#[49, 45, 49]⟩ : ByteArray), (⟨#[97, 45, 49, 45]⟩ : ByteArray), (⟨#[97, 45, 45, 98, 45, 51]⟩ : ByteArray), (⟨#[97, 45, 98]⟩ : ByteArray)]
def good (t : Nat) : Bool :=
  let p := splitV (rdOf ByteArray.empty revs (t : Int))
  (shortL (rdOf ByteArray.empty names (t : Int)).data.toList 16 == rdOf false [true, true, true, true, false, false, false, false, false, false, false, false, true, true] (t : Int)) &&
  (p.2.1 == rd [1, 12, 999999, 0, 0, 0, 0, 0, 0, 0, 0, 0, 3, 0] (t : Int)) && (p.2.2 == decide (rd [1, 12, 999999, 0, 0, 0, 0, 0, 0, 0, 0, 0, 3, 0] (t : Int) > 0)) && (p.2.2 || p.1.data.toList.isEmpty) && decide ((rdOf ByteArray.empty revs (t : Int)).size ≤ 1000000)
theorem all_good : (List.range 14).all good = true := by kernel_rfl
theorem LabelKnown : damperlaw1_LabelKnown.Pure := by
  intro a0 w0
  refine ⟨0 + 1, ?_⟩
  unfold damperlaw1_LabelKnown.f
  rw [known_ok, Option.bind_some, if_pos rfl, Option.bind_some]
  obtain ⟨r, hr, r0, r1⟩ := within_ok a0 14 (by decide) (by decide) w0
  have hl : (names.length : Int) = 14 := rfl
  have hv : (revs.length : Int) = 14 := rfl
  show ((damperlaw1_within.f a0 (names.length : Int)).bind fun t246 => ((some revs).bind fun y247 => (if 0 ≤ t246 then (if t246 < (y247.length : Int) then ((label_Split.f (rdOf ByteArray.empty y247 t246)).bind fun bt254 => (damperlaw1_LabelKnown.j0 (0 + 1) names (([true, true, true, true, false, false, false, false, false, false, false, false, true, true] : List Bool)) t246 (([1, 12, 999999, 0, 0, 0, 0, 0, 0, 0, 0, 0, 3, 0] : List Int)) bt254.1 bt254.2.1 bt254.2.2)) else (none)) else (none)))) = some true
  rw [hl, hr, Option.bind_some, Option.bind_some, if_pos r0, if_pos (by rw [hv]; exact r1)]
  obtain ⟨t, rfl⟩ := Int.eq_ofNat_of_zero_le r0
  have hg := List.all_eq_true.1 all_good t (List.mem_range.2 (by omega))
  simp only [good, Bool.and_eq_true, beq_iff_eq, Bool.or_eq_true, decide_eq_true_eq] at hg
  obtain ⟨⟨⟨⟨g1, g2⟩, g3⟩, g4⟩, g5⟩ := hg
  rw [split_eq _ g5, Option.bind_some]
  exact known_j0 0 _ _ _ _ _ _ _ (by omega) (by rw [hl]; omega) r1 r1 (by rw [g1]; simp) g2 (by rw [g3]; simp) (g4.imp id (fun h => by simpa using h))
end Go.Proofs.YtgnnbnbmjifgfaaDoor.Pure
