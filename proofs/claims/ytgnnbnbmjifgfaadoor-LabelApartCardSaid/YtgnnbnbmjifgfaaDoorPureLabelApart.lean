/- A revision's name is another one for each name and each number, and as long as its parts. -/
import Derived.Test.YtgnnbnbmjifgfaaDoorMax51
import Derived.Test.YtgnnbnbmjifgfaaDoorPlain
import Derived.Test.YtgnnbnbmjifgfaaDoorPlainM
import Derived.Test.YtgnnbnbmjifgfaaDoorPlainR
namespace Go.Proofs.YtgnnbnbmjifgfaaDoor.Pure
open Go.RowKit Go.Proofs.YtgnnbnbmjifgfaaDoor.Ma Go.Proofs.YtgnnbnbmjifgfaaDoorW.PrintWords Go.Proofs.YtgnnbnbmjifgfaaDoorW.PrintLast Go.Proofs.YtgnnbnbmjifgfaaDoor.Plain

theorem revL_parts {l : List UInt8} {g : Nat} (h : shortL l 16 = true) (h1 : 1 ≤ g) (h2 : g ≤ 9999) : revL l (g : Int) = l ++ 45 :: dig 6 g := by
  unfold revL
  rw [if_pos ⟨h, by omega, by omega⟩]; rfl
theorem rev_inj {l m : List UInt8} {g h : Nat} (hl : shortL l 16 = true) (hm : shortL m 16 = true) (g1 : 1 ≤ g) (g2 : g ≤ 9999) (h1 : 1 ≤ h) (h2 : h ≤ 9999) (e : revL l (g : Int) = revL m (h : Int)) : l = m ∧ g = h := by
  have a := splitV_parts ⟨(revL l (g : Int)).toArray⟩ l g ⟨hl, g1, by omega, by simpa using revL_parts hl g1 g2⟩
  have b := splitV_parts ⟨(revL l (g : Int)).toArray⟩ m h ⟨hm, h1, by omega, by rw [e]; simpa using revL_parts hm h1 h2⟩
  rw [a] at b
  have c := congrArg (fun x => x.1.data.toList) b
  have d := congrArg (fun x => x.2.1) b
  refine ⟨by simpa using c, ?_⟩
  simp only at d
  omega
theorem apart_j0 (k : Nat) (hk : 20 ≤ k) (x2 x3 : Int) (w2 : (Lit.int .i64 x2).wf = true) (w3 : (Lit.int .i64 x3).wf = true) (s t : ByteArray) (hs : shortL s.data.toList 16 = true) (ht : shortL t.data.toList 16 = true) :
    damperlaw1_LabelApart.j0 k x2 x3 s t false = some true := by
  obtain ⟨k, rfl⟩ : ∃ j, k = j + 2 := ⟨k - 2, by omega⟩
  obtain ⟨g, hg, g0, g1⟩ := within_ok x2 9999 (by decide) (by decide) w2
  obtain ⟨h, hh, h0, h1⟩ := within_ok x3 9999 (by decide) (by decide) w3
  obtain ⟨g, rfl⟩ := Int.eq_ofNat_of_zero_le g0
  obtain ⟨h, rfl⟩ := Int.eq_ofNat_of_zero_le h0
  rw [damperlaw1_LabelApart.j0, if_neg (by decide), hg, Option.bind_some, hh, Option.bind_some, w64_small _ (by omega) (by omega), w64_small _ (by omega) (by omega), rev_eq, Option.bind_some, rev_eq, Option.bind_some,
    show ((1 : Int) + (g : Int)) = ((1 + g : Nat) : Int) by omega, show ((1 : Int) + (h : Int)) = ((1 + h : Nat) : Int) by omega]
  generalize hG : 1 + g = G
  generalize hH : 1 + h = H
  have inj := rev_inj hs ht (show 1 ≤ G by omega) (by omega) (show 1 ≤ H by omega) (by omega)
  have pg := revL_parts hs (show 1 ≤ G by omega) (by omega)
  have ph := revL_parts ht (show 1 ≤ H by omega) (by omega)
  have hl := short_le hs
  have hz : s.size = s.data.toList.length := rfl
  have hd := dig_len 6 G
  have len : ((⟨(revL s.data.toList (G : Int)).toArray⟩ : ByteArray).size : Int) = (s.size : Int) + 1 + ((dig 6 G).length : Int) := by
    have : (⟨(revL s.data.toList (G : Int)).toArray⟩ : ByteArray).size = (revL s.data.toList (G : Int)).length := by simp [ByteArray.size]
    rw [this, pg]; simp; omega
  have fin : ((damperref1_Digits.f k ((G : Nat) : Int)).bind fun t237 => (some (((⟨(revL s.data.toList (G : Int)).toArray⟩ : ByteArray).size : Int) == (wrap64 ((wrap64 ((s.size : Int) + 1)) + (t237.size : Int)))))) = some true := by
    rw [digits_eq 5 G k (by omega) (by omega) (by omega) (by omega), Option.bind_some, len]
    have e2 : (⟨(dig (5 + 1) G).toArray⟩ : ByteArray).size = (dig (5 + 1) G).length := by simp [ByteArray.size]
    have e3 : (dig (5 + 1) G).length = (dig 6 G).length := rfl
    rw [e2, e3, w64_small ((s.size : Int) + 1) (by omega) (by omega), w64_small _ (by omega) (by omega)]
    simp
  have n1 : ¬ ((⟨(revL s.data.toList (G : Int)).toArray⟩ : ByteArray).toList = ([] : List UInt8)) := by rw [Lib.toList_data, pg]; simp
  have n2 : ¬ ((⟨(revL t.data.toList (H : Int)).toArray⟩ : ByteArray).toList = ([] : List UInt8)) := by rw [Lib.toList_data, ph]; simp
  rw [damperlaw1_LabelApart.j1, if_neg n1, if_neg n2]
  by_cases e : s.toList = t.toList
  · have e' : s.data.toList = t.data.toList := by rw [← Lib.toList_data, ← Lib.toList_data, e]
    rw [if_pos e, if_pos, fin]
    by_cases eg : G = H
    · rw [eg, e']; simp
    · have a : (((G : Nat) : Int) == ((H : Nat) : Int)) = false := beq_eq_false_iff_ne.2 (by omega)
      rw [a, Lib.toList_data, Lib.toList_data]
      have b : ¬ (revL s.data.toList (G : Int) = revL t.data.toList (H : Int)) := fun q => eg (inj q).2
      rw [show ((({ data := (revL s.data.toList (G : Int)).toArray } : ByteArray).data.toList == ({ data := (revL t.data.toList (H : Int)).toArray } : ByteArray).data.toList)) = false from beq_eq_false_iff_ne.2 (by simpa using b)]
      rfl
  · have e' : ¬ s.data.toList = t.data.toList := by rw [← Lib.toList_data, ← Lib.toList_data]; exact e
    rw [if_neg e, if_pos, fin]
    rw [Lib.toList_data, Lib.toList_data]
    have b : ¬ (revL s.data.toList (G : Int) = revL t.data.toList (H : Int)) := fun q => e' (inj q).1
    rw [show ((({ data := (revL s.data.toList (G : Int)).toArray } : ByteArray).data.toList == ({ data := (revL t.data.toList (H : Int)).toArray } : ByteArray).data.toList)) = false from beq_eq_false_iff_ne.2 (by simpa using b)]
    rfl
theorem LabelApart : damperlaw1_LabelApart.Pure := by
  intro l0 l1 a2 a3 wl wm w2 w3
  refine ⟨100, ?_⟩
  unfold damperlaw1_LabelApart.f
  obtain ⟨r, hr, r2⟩ := text_ok l0 wl.2
  obtain ⟨t, ht, t2⟩ := text_ok l1 wm.2
  rw [show (100 : Nat) = 99 + 1 from rfl, known_ok, Option.bind_some, if_pos rfl, hr _ (by omega), Option.bind_some, if_pos (by omega), ht _ (by omega), Option.bind_some, if_pos (by omega), name_eq, Option.bind_some]
  generalize (⟨#[97]⟩ : ByteArray) ++ r = s
  generalize (⟨#[97]⟩ : ByteArray) ++ t = u
  by_cases h1 : shortL s.data.toList 16 = true
  · rw [if_pos h1, name_eq, Option.bind_some]
    cases h2 : shortL u.data.toList 16 with
    | true => exact apart_j0 _ (by omega) a2 a3 w2 w3 s u h1 h2
    | false => rw [damperlaw1_LabelApart.j0]; rfl
  · rw [if_neg h1, damperlaw1_LabelApart.j0]; rfl
end Go.Proofs.YtgnnbnbmjifgfaaDoor.Pure
