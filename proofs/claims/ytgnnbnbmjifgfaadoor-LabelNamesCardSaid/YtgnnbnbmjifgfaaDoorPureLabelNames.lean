/- Of any eight texts that LabelNames asks of, the program and the document say alike whether each is a name, a tag. -/
import Derived.Test.YtgnnbnbmjifgfaaDoorMax45
import Derived.Test.YtgnnbnbmjifgfaaDoorPlain
import Derived.Test.YtgnnbnbmjifgfaaDoorPlainM
namespace Go.Proofs.YtgnnbnbmjifgfaaDoor.Pure
open Go.RowKit Go.Proofs.YtgnnbnbmjifgfaaDoor.Ma Go.Proofs.YtgnnbnbmjifgfaaDoorW.PrintWords Go.Proofs.YtgnnbnbmjifgfaaDoorW.PrintLast Go.Proofs.YtgnnbnbmjifgfaaDoor.Plain

theorem names_l0 (l : List ByteArray) (hl : ∀ s ∈ l, s.size ≤ 100) (hn : l.length ≤ 100) : ∀ (m i k : Nat), l.length - i = m → i ≤ l.length → m + 106 ≤ k → damperlaw1_LabelNames.l0 k l (i : Int) = some true
  | m, i, k, hm, hi, hk => by
    obtain ⟨k, rfl⟩ : ∃ j, k = j + 1 := ⟨k - 1, by omega⟩
    rw [damperlaw1_LabelNames.l0]
    by_cases h : i < l.length
    · have hs : (rdOf ByteArray.empty l (i : Int)).size ≤ 100 := by
        have e : rdOf ByteArray.empty l (i : Int) = l[i] := by
          show l.getD i ByteArray.empty = l[i]
          rw [List.getD_eq_getElem?_getD, List.getElem?_eq_getElem h]; rfl
        rw [e]; exact hl _ (List.getElem_mem h)
      generalize rdOf ByteArray.empty l (i : Int) = s at hs
      have hz : s.size = s.data.toList.length := rfl
      rw [if_pos (by omega), if_pos (by omega), name_eq, Option.bind_some, rname_eq s (by omega) k (by omega), Option.bind_some, if_neg (by simp), tag_eq, Option.bind_some, rtag_eq s (by omega) k (by omega), Option.bind_some, if_neg (by simp), w64_small _ (by omega) (by omega)]
      exact names_l0 l hl hn (m - 1) (i + 1) k (by omega) (by omega) (by omega)
    · rw [if_neg (by omega)]
theorem LabelNames : damperlaw1_LabelNames.Pure := by
  intro l0 a1 a2 wl w1 w2
  refine ⟨200, ?_⟩
  unfold damperlaw1_LabelNames.f
  rw [show (200 : Nat) = 199 + 1 from rfl, known_ok, Option.bind_some, if_pos rfl]
  by_cases h : (a1.size : Int) > 100
  · rw [if_pos h]
  obtain ⟨r, hr, r2⟩ := text_ok l0 wl.2
  obtain ⟨t, ht, t0, t1⟩ := within_ok a2 20 (by decide) (by decide) w2
  rw [if_neg h, hr _ (by omega), Option.bind_some, Option.bind_some, if_pos (by omega), ht, Option.bind_some, if_pos t0, if_pos (by omega)]
  refine names_l0 _ ?_ (by simp) 8 0 _ (by simp) (by simp) (by omega)
  intro s hs
  simp only [List.mem_cons, List.not_mem_nil, or_false] at hs
  rcases hs with rfl | rfl | rfl | rfl | rfl | rfl | rfl | rfl
  · omega
  · omega
  · rw [ByteArray.size_append]; have : (⟨#[97]⟩ : ByteArray).size = 1 := rfl; omega
  · rw [ByteArray.size_extract]; have : (⟨#[97, 98, 99, 100, 101, 102, 103, 104, 105, 106, 107, 108, 109, 110, 111, 112, 113, 114, 115, 116]⟩ : ByteArray).size = 20 := rfl; omega
  · decide
  · decide
  · decide
  · decide
end Go.Proofs.YtgnnbnbmjifgfaaDoor.Pure
