/- What was put together is parted as it was, and what was parted is put together as it was. -/
import Derived.Test.YtgnnbnbmjifgfaaDoorMax50
import Derived.Test.YtgnnbnbmjifgfaaDoorPlain
import Derived.Test.YtgnnbnbmjifgfaaDoorPlainM
import Derived.Test.YtgnnbnbmjifgfaaDoorPlainR
namespace Go.Proofs.YtgnnbnbmjifgfaaDoor.Pure
open Go.RowKit Go.Proofs.YtgnnbnbmjifgfaaDoor.Ma Go.Proofs.YtgnnbnbmjifgfaaDoorW.PrintWords Go.Proofs.YtgnnbnbmjifgfaaDoorW.PrintLast Go.Proofs.YtgnnbnbmjifgfaaDoor.Plain

set_option maxRecDepth 100000 in
theorem back_l0 (l : List ByteArray) (hl : ∀ s ∈ l, s.size ≤ 200) (hn : l.length ≤ 100) : ∀ (m i k : Nat), l.length - i = m → i ≤ l.length → 2 * m + 4 ≤ k → damperlaw1_LabelBack.l0 k l (i : Int) = some true
  | m, i, k, hm, hi, hk => by
    obtain ⟨k, rfl⟩ : ∃ j, k = j + 3 := ⟨k - 3, by omega⟩
    rw [damperlaw1_LabelBack.l0]
    by_cases h : i < l.length
    · have e : rdOf ByteArray.empty l (i : Int) = l[i] := by
        show l.getD i ByteArray.empty = l[i]
        rw [List.getD_eq_getElem?_getD, List.getElem?_eq_getElem h]; rfl
      have hs : (rdOf ByteArray.empty l (i : Int)).size ≤ 200 := by
        rw [e]; exact hl _ (List.getElem_mem h)
      have next : damperlaw1_LabelBack.l0 (k + 1) l (wrap64 ((i : Int) + 1)) = some true := by
        rw [w64_small _ (by omega) (by omega)]
        exact back_l0 l hl hn (m - 1) (i + 1) (k + 1) (by omega) (by omega) (by omega)
      rw [if_pos (by omega), if_pos (by omega), split_eq _ (by omega), Option.bind_some]
      by_cases hp : ∃ c g, Parts (rdOf ByteArray.empty l (i : Int)).data.toList c g
      · obtain ⟨c, g, hp⟩ := hp
        rw [splitV_parts _ c g hp]
        show damperlaw1_LabelBack.j3 (k + 2) l (i : Int) ⟨c.toArray⟩ (g : Int) true = some true
        rw [damperlaw1_LabelBack.j3, if_pos rfl, rev_eq, Option.bind_some, if_pos (by omega), if_pos (by omega), if_pos, next]
        rw [Lib.toList_data, Lib.toList_data]
        obtain ⟨p1, p2, p3, p4⟩ := hp
        rw [p4]
        unfold revL
        rw [if_pos ⟨p1, by omega, by omega⟩]; rfl
      · rw [splitV_not _ (fun c g h => hp ⟨c, g, h⟩)]
        show damperlaw1_LabelBack.j3 (k + 2) l (i : Int) ⟨#[]⟩ 0 false = some true
        rw [damperlaw1_LabelBack.j3, if_neg (by decide), next]
    · rw [if_neg (by omega)]
theorem back_j1 (x2 x7 : ByteArray) (h2 : x2.size ≤ 100) (h7 : x7.size ≤ 48) (k : Nat) (hk : 20 ≤ k) : damperlaw1_LabelBack.j1 k x2 x7 false = some true := by
  obtain ⟨k, rfl⟩ : ∃ j, k = j + 1 := ⟨k - 1, by omega⟩
  have e1 : (x7 ++ (⟨#[45]⟩ : ByteArray)).size = x7.size + 1 := by rw [ByteArray.size_append]; rfl
  rw [damperlaw1_LabelBack.j1, if_neg (by decide), if_pos (by omega), if_pos (by omega), if_pos (by rw [e1]; omega)]
  refine back_l0 _ ?_ (by simp) 3 0 _ (by simp) (by simp) (by omega)
  intro s hs
  simp only [List.mem_cons, List.not_mem_nil, or_false] at hs
  rcases hs with rfl | rfl | rfl
  · omega
  · rw [ByteArray.size_append]; have : (⟨#[97, 45]⟩ : ByteArray).size = 2 := rfl; omega
  · rw [ByteArray.size_append, e1]; omega
theorem LabelBack : damperlaw1_LabelBack.Pure := by
  intro l0 a1 a2 wl w1 w2
  refine ⟨100, ?_⟩
  unfold damperlaw1_LabelBack.f
  rw [show (100 : Nat) = 99 + 1 from rfl, known_ok, Option.bind_some, if_pos rfl]
  by_cases h : (a2.size : Int) > 100
  · rw [if_pos h]
  obtain ⟨r, hr, r2⟩ := text_ok l0 wl.2
  obtain ⟨t, ht, t0, t1⟩ := within_ok a1 999999 (by decide) (by decide) w1
  obtain ⟨g, rfl⟩ := Int.eq_ofNat_of_zero_le t0
  rw [if_neg h, hr _ (by omega), Option.bind_some, ht, Option.bind_some, w64_small _ (by omega) (by omega), rev_eq, Option.bind_some, show ((1 : Int) + (g : Int)) = ((1 + g : Nat) : Int) by omega]
  have hd := dig_len 6 (1 + g)
  have j1 := back_j1 a2 r (by omega) r2 99 (by omega)
  by_cases hs : shortL r.data.toList 16 = true
  · have e : revL r.data.toList ((1 + g : Nat) : Int) = r.data.toList ++ 45 :: dig 6 (1 + g) := by
      unfold revL
      rw [if_pos ⟨hs, by omega, by omega⟩]; rfl
    have hl := short_le hs
    have hsz : (⟨(r.data.toList ++ 45 :: dig 6 (1 + g)).toArray⟩ : ByteArray).size ≤ 1000000 := by
      show ((r.data.toList ++ 45 :: dig 6 (1 + g)).toArray).size ≤ 1000000
      rw [List.size_toArray, List.length_append, List.length_cons]; omega
    rw [e, split_eq _ hsz, Option.bind_some, splitV_parts _ r.data.toList (1 + g) ⟨hs, by omega, by omega, by simp⟩]
    show damperlaw1_LabelBack.j0 (99 + 1) a2 r ((1 + g : Nat) : Int) ⟨(r.data.toList ++ 45 :: dig 6 (1 + g)).toArray⟩ ⟨r.data.toList.toArray⟩ ((1 + g : Nat) : Int) true = some true
    rw [damperlaw1_LabelBack.j0, name_eq, Option.bind_some, hs, Lib.toList_data, Lib.toList_data]
    rw [if_neg (by simp), if_neg (by simp), if_pos rfl, if_pos (by simp)]
    have : (((1 + g : Nat) : Int) != ((1 + g : Nat) : Int)) = false := by simp
    rw [this]; exact j1
  · have e : revL r.data.toList ((1 + g : Nat) : Int) = [] := by
      unfold revL
      rw [if_neg (fun h => hs h.1)]
    rw [e, split_eq _ (by decide), Option.bind_some, splitV_not _ (fun c g h => by have := h.2.2.2; simp at this)]
    show damperlaw1_LabelBack.j0 (99 + 1) a2 r ((1 + g : Nat) : Int) ⟨([] : List UInt8).toArray⟩ ⟨#[]⟩ 0 false = some true
    rw [damperlaw1_LabelBack.j0, name_eq, Option.bind_some, (by simpa using hs : shortL r.data.toList 16 = false), Lib.toList_data]
    rw [if_neg (by simp), if_neg (by simp), if_neg (by decide)]
    exact j1
end Go.Proofs.YtgnnbnbmjifgfaaDoor.Pure
