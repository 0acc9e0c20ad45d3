/- Any name and number are put together as the document says, and any text is parted as it says. -/
import Derived.Test.YtgnnbnbmjifgfaaDoorMax49
import Derived.Test.YtgnnbnbmjifgfaaDoorPlain
import Derived.Test.YtgnnbnbmjifgfaaDoorPlainM
import Derived.Test.YtgnnbnbmjifgfaaDoorPlainR
namespace Go.Proofs.YtgnnbnbmjifgfaaDoor.Pure
open Go.RowKit Go.Proofs.YtgnnbnbmjifgfaaDoor.Ma Go.Proofs.YtgnnbnbmjifgfaaDoorW.PrintWords Go.Proofs.YtgnnbnbmjifgfaaDoorW.PrintLast Go.Proofs.YtgnnbnbmjifgfaaDoor.Plain

set_option maxRecDepth 100000 in
theorem revs_l1 (l : List ByteArray) (hl : ∀ s ∈ l, s.size ≤ 200) (hn : l.length ≤ 100) : ∀ (m i k : Nat), l.length - i = m → i ≤ l.length → 2 * m + 240 ≤ k → damperlaw1_LabelRevs.l1 k l (i : Int) = some true
  | m, i, k, hm, hi, hk => by
    obtain ⟨k, rfl⟩ : ∃ j, k = j + 2 := ⟨k - 2, by omega⟩
    rw [damperlaw1_LabelRevs.l1]
    by_cases h : i < l.length
    · have hs : (rdOf ByteArray.empty l (i : Int)).size ≤ 200 := by
        have e : rdOf ByteArray.empty l (i : Int) = l[i] := by
          show l.getD i ByteArray.empty = l[i]
          rw [List.getD_eq_getElem?_getD, List.getElem?_eq_getElem h]; rfl
        rw [e]; exact hl _ (List.getElem_mem h)
      generalize rdOf ByteArray.empty l (i : Int) = s at hs
      have hz : s.size = s.data.toList.length := rfl
      rw [if_pos (by omega), if_pos (by omega), split_eq s (by omega), Option.bind_some, rsplit_eq s (by omega) (k + 1) (by omega), Option.bind_some, if_pos rfl, if_pos rfl]
      rw [show ((splitV s).2.2 != (splitV s).2.2) = false by simp, damperlaw1_LabelRevs.j2, if_neg (by decide), w64_small _ (by omega) (by omega)]
      exact revs_l1 l hl hn (m - 1) (i + 1) k (by omega) (by omega) (by omega)
    · rw [if_neg (by omega)]
set_option maxRecDepth 100000 in
theorem revs_l0 (x0 : List Int) (hw : ∀ y_ ∈ x0, (Lit.int .i64 y_).wf = true) (x2 : ByteArray) (h2 : x2.size ≤ 100) (x3 : Int) (h3 : (Lit.int .i64 x3).wf = true) (G : List Int) (hG : G.length = 4) :
    ∀ (m i k : Nat), 4 - i = m → i ≤ 4 → 2 * m + 400 ≤ k → damperlaw1_LabelRevs.l0 k x0 x2 x3 G (i : Int) = some true
  | m, i, k, hm, hi, hk => by
    obtain ⟨k, rfl⟩ : ∃ j, k = j + 2 := ⟨k - 2, by omega⟩
    obtain ⟨r, hr, r2⟩ := text_ok x0 hw
    have hz : r.size = r.data.toList.length := rfl
    have hz2 : ((⟨#[97]⟩ : ByteArray) ++ x2).size = ((⟨#[97]⟩ : ByteArray) ++ x2).data.toList.length := rfl
    have hz3 : ((⟨#[97]⟩ : ByteArray) ++ x2).size = 1 + x2.size := by rw [ByteArray.size_append]; rfl
    rw [damperlaw1_LabelRevs.l0]
    by_cases h : i < 4
    · rw [if_pos (by omega), hr _ (by omega), Option.bind_some, if_pos (by omega), rev_eq, Option.bind_some, Option.bind_some, rrev_eq r (by omega) _ (k + 1) (by omega), Option.bind_some, if_pos rfl, if_pos (by omega),
        rev_eq, Option.bind_some, rrev_eq _ (by omega) _ (k + 1) (by omega), Option.bind_some, if_pos rfl, w64_small _ (by omega) (by omega)]
      exact revs_l0 x0 hw x2 h2 x3 h3 G hG (m - 1) (i + 1) (k + 1) (by omega) (by omega) (by omega)
    · obtain ⟨t, ht, t0, t1⟩ := within_ok x3 20000000 (by decide) (by decide) h3
      obtain ⟨u, rfl⟩ := Int.eq_ofNat_of_zero_le t0
      have hd := dig_len (9 + 1) u
      have e1 : (r ++ (⟨#[45]⟩ : ByteArray)).size = r.size + 1 := by rw [ByteArray.size_append]; rfl
      have e2 : (⟨(dig (9 + 1) u).toArray⟩ : ByteArray).size = (dig (9 + 1) u).length := by simp [ByteArray.size]
      rw [if_neg (by omega), hr _ (by omega), Option.bind_some, if_pos (by omega), Option.bind_some, if_pos (by omega), ht, Option.bind_some, digits_eq 9 u (k + 1) (by omega) (by omega) (by omega) (by omega), Option.bind_some, if_pos (by rw [e1, e2]; omega)]
      refine revs_l1 _ ?_ (by simp) 13 0 _ (by simp) (by simp) (by omega)
      intro s hs
      simp only [List.mem_cons, List.not_mem_nil, or_false] at hs
      rcases hs with rfl | rfl | rfl | rfl | rfl | rfl | rfl | rfl | rfl | rfl | rfl | rfl | rfl
      · omega
      · omega
      · rw [ByteArray.size_append]; have : (⟨#[119, 101, 98, 45]⟩ : ByteArray).size = 4 := rfl; omega
      · rw [ByteArray.size_append, e1, e2]; omega
      all_goals decide
theorem LabelRevs : damperlaw1_LabelRevs.Pure := by
  intro l0 a1 a2 a3 wl w1 w2 w3
  refine ⟨500, ?_⟩
  unfold damperlaw1_LabelRevs.f
  rw [show (500 : Nat) = 499 + 1 from rfl, known_ok, Option.bind_some, if_pos rfl]
  by_cases h : (a2.size : Int) > 100
  · rw [if_pos h]
  obtain ⟨t, ht, t0, t1⟩ := within_ok a3 1000002 (by decide) (by decide) w3
  rw [if_neg h, ht, Option.bind_some]
  exact revs_l0 l0 wl.2 a2 (by omega) a3 w3 _ rfl 4 0 _ (by omega) (by omega) (by omega)
end Go.Proofs.YtgnnbnbmjifgfaaDoor.Pure
