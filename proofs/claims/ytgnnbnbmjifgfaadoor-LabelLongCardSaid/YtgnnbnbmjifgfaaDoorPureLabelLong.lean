/- Of the thirty fronts of one text just those that may be are names, and tags. -/
import Derived.Test.YtgnnbnbmjifgfaaDoorMax53
import Derived.Test.YtgnnbnbmjifgfaaDoorPlain
import Derived.Test.YtgnnbnbmjifgfaaDoorPlainM
namespace Go.Proofs.YtgnnbnbmjifgfaaDoor.Pure
open Go.RowKit Go.Proofs.YtgnnbnbmjifgfaaDoor.Ma Go.Proofs.YtgnnbnbmjifgfaaDoorW.PrintWords Go.Proofs.YtgnnbnbmjifgfaaDoorW.PrintLast Go.Proofs.YtgnnbnbmjifgfaaDoor.Plain

def fronts : List UInt8 := [97, 98, 99, 100, 101, 102, 103, 104, 45, 97, 98, 99, 100, 101, 102, 103, 104, 49, 45, 50, 51, 52, 53, 54, 55, 56, 57, 48, 49, 50]
def fine (t : Nat) : Bool := decide (t > 0) && t != 9 && t != 19
def goodL (t : Nat) : Bool := (shortL (fronts.take t) 16 == (fine t && decide (t ≤ 16))) && (shortL (fronts.take t) 8 == (fine t && decide (t ≤ 8)))
theorem all_goodL : (List.range 30).all goodL = true := by kernel_rfl
theorem revL_nil {l : List UInt8} {g : Int} (h : ¬ (1 ≤ g ∧ g ≤ 999999)) : revL l g = [] := by
  unfold revL
  rw [if_neg (fun q => h q.2)]
theorem revL_ne (l : List UInt8) (g : Int) (h : 1 ≤ g ∧ g ≤ 999999) : (revL l g != []) = shortL l 16 := by
  unfold revL
  cases hs : shortL l 16 with
  | true => rw [if_pos ⟨rfl, h.1, h.2⟩]; simp
  | false => rw [if_neg (fun q => by cases q.1)]; rfl
theorem long_j0 (k : Nat) (a1 : Int) (w1 : (Lit.int .i64 a1).wf = true) (t : Nat) (ht : t < 30) (s : ByteArray) (hs : s.data.toList = fronts.take t) (b : Bool) (hb : b = fine t) : damperlaw1_LabelLong.j0 (k + 5) a1 (t : Int) s b = some true := by
  obtain ⟨g, hg, g0, g1⟩ := within_ok a1 999999 (by decide) (by decide) w1
  obtain ⟨h, hh, h0, h1⟩ := within_ok a1 9 (by decide) (by decide) w1
  have hgood := List.all_eq_true.1 all_goodL t (List.mem_range.2 ht)
  simp only [goodL, Bool.and_eq_true, beq_iff_eq] at hgood
  obtain ⟨n16, n8⟩ := hgood
  have d16 : decide ((t : Int) ≤ 16) = decide (t ≤ 16) := decide_eq_decide.2 (by omega)
  have d8 : decide ((t : Int) ≤ 8) = decide (t ≤ 8) := decide_eq_decide.2 (by omega)
  have f1 : ((⟨(revL [119, 101, 98] (-h)).toArray⟩ : ByteArray).toList = ([] : List UInt8)) := by rw [Lib.toList_data, revL_nil (by omega)]
  have f2 : ((⟨(revL [119, 101, 98] (1000000 + h)).toArray⟩ : ByteArray).toList == ([] : List UInt8)) = true := by rw [Lib.toList_data, revL_nil (by omega)]; rfl
  have e1 : (⟨#[119, 101, 98]⟩ : ByteArray).data.toList = [119, 101, 98] := rfl
  rw [damperlaw1_LabelLong.j0, hg, Option.bind_some, w64_small _ (by omega) (by omega), damperlaw1_LabelLong.j1, name_eq, Option.bind_some, hs, n16, tag_eq, hs, n8, hb, d16, d8]
  have fin : ∀ v, ((damperlaw1_within.f a1 9).bind fun t268 => ((label_Rev.f (k + 3) (⟨#[119, 101, 98]⟩ : ByteArray) (wrap64 (-t268))).bind fun t269 => (if t269.toList = ([] : List UInt8) then ((damperlaw1_within.f a1 9).bind fun t270 => ((label_Rev.f (k + 3) (⟨#[119, 101, 98]⟩ : ByteArray) (wrap64 (1000000 + t270))).bind fun t271 => (damperlaw1_LabelLong.j2 (k + 3) (t271.toList == ([] : List UInt8))))) else v))) = some true := by
    intro v
    rw [hh, Option.bind_some, w64_small _ (by omega) (by omega), rev_eq, Option.bind_some, e1, if_pos f1, Option.bind_some, w64_small _ (by omega) (by omega), rev_eq, Option.bind_some, e1, f2]
    rfl
  cases hf : fine t with
  | true =>
    rw [if_pos rfl, Bool.true_and, Bool.true_and, if_pos (by simp), Option.bind_some, if_pos (by simp), rev_eq, Option.bind_some, Lib.toList_data]
    rw [show (({ data := (revL s.data.toList (1 + g)).toArray } : ByteArray).data.toList != ([] : List UInt8)) = shortL s.data.toList 16 from revL_ne _ _ (by omega), hs, n16, hf, Bool.true_and, if_pos (by simp)]
    exact fin _
  | false =>
    rw [if_neg (by decide), Bool.false_and, Bool.false_and, if_pos (show (false == false) = true from rfl), Option.bind_some, if_pos (show (false == false) = true from rfl), rev_eq, Option.bind_some, Lib.toList_data]
    rw [show (({ data := (revL s.data.toList (1 + g)).toArray } : ByteArray).data.toList != ([] : List UInt8)) = shortL s.data.toList 16 from revL_ne _ _ (by omega), hs, n16, hf, Bool.false_and, if_pos (show (false == false) = true from rfl)]
    exact fin _
theorem LabelLong : damperlaw1_LabelLong.Pure := by
  intro a0 a1 w0 w1
  refine ⟨0 + 5, ?_⟩
  unfold damperlaw1_LabelLong.f
  rw [show (0 + 5 : Nat) = 4 + 1 from rfl, known_ok, Option.bind_some, if_pos rfl]
  obtain ⟨t, ht, t0, t1⟩ := within_ok a0 30 (by decide) (by decide) w0
  obtain ⟨t, rfl⟩ := Int.eq_ofNat_of_zero_le t0
  have hs : ((⟨#[97, 98, 99, 100, 101, 102, 103, 104, 45, 97, 98, 99, 100, 101, 102, 103, 104, 49, 45, 50, 51, 52, 53, 54, 55, 56, 57, 48, 49, 50]⟩ : ByteArray).extract 0 ((t : Int)).toNat).data.toList = fronts.take t := by
    rw [show ((t : Int)).toNat = t from rfl, take_ba]; rfl
  rw [ht, Option.bind_some, if_pos t0, if_pos (by omega)]
  by_cases h1 : (t : Int) > 0
  · rw [if_pos h1]
    by_cases h9 : (t : Int) = 9
    · rw [if_pos h9]
      exact long_j0 0 a1 w1 t (by omega) _ hs false (by rw [show t = 9 by omega]; rfl)
    · rw [if_neg h9]
      refine long_j0 0 a1 w1 t (by omega) _ hs _ ?_
      have e1 : decide (t > 0) = true := decide_eq_true (by omega)
      have e2 : (t != 9) = true := by simp; omega
      have e3 : ((t : Int) != 19) = (t != 19) := by
        by_cases h : t = 19
        · subst h; rfl
        · rw [show (t != 19) = true by simpa using h]; simp; omega
      unfold fine
      rw [e1, e2, e3]; rfl
  · rw [if_neg h1]
    exact long_j0 0 a1 w1 t (by omega) _ hs false (by rw [show t = 0 by omega]; rfl)
end Go.Proofs.YtgnnbnbmjifgfaaDoor.Pure
