/- Where any draw leads, where each tag leads, what is the same, and its text, are the document's. -/
import Derived.Test.YtckcimahclpdfaaDoorMax0
import Derived.Test.YtckcimahclpdfaaDoorMax10
import Derived.Test.YtckcimahclpdfaaDoorMax18
import Derived.Test.YtckcimahclpdfaaDoorMax19
import Derived.Test.YtckcimahclpdfaaDoorMax20
import Derived.Test.YtckcimahclpdfaaDoorPlainV
namespace Go.Proofs.YtckcimahclpdfaaDoor.Pure
open Go.RowKit Go.Proofs.YtckcimahclpdfaaDoor.Ma Go.Proofs.YtckcimahclpdfaaDoorW.PrintWords Go.Proofs.YtckcimahclpdfaaDoorW.PrintLast Go.Proofs.YtckcimahclpdfaaDoor.Plain
set_option linter.unusedVariables false
set_option linter.unusedSimpArgs false

theorem rd_digits {n : Int} (h0 : 0 ≤ n) (h1 : n ≤ 999) (k : Nat) (hk : 10 ≤ k) : damperref1_Digits.f k n = some ⟨(Lib.itoa n).toArray⟩ := by
  rw [itoa_dig n h0 (by omega)]
  obtain ⟨u, rfl⟩ := Int.eq_ofNat_of_zero_le h0
  exact digits_eq 5 u k (by omega) (by omega) (by omega) (by omega)
/-- The pieces, each with a space ahead of it. -/
def spaced (l : List ByteArray) : List UInt8 := Lib.joinTail [32] (l.map (·.data.toList))
theorem spaced_snoc (l : List ByteArray) (x : ByteArray) : spaced (l ++ [x]) = spaced l ++ 32 :: x.data.toList := by
  simp [spaced, Lib.joinTail]
set_option maxRecDepth 100000 in
theorem rtext_l1 (o : List S32) (l : List S35) (hl : l.length ≤ 20) (h : ∀ x ∈ l, x.f0.size ≤ 100 ∧ x.f1.size ≤ 100) : ∀ (m i k : Nat) (s : ByteArray) (p : List ByteArray), l.length - i = m → i ≤ l.length → s.data.toList = spaced p → s.size ≤ 10000 + 300 * i → m + 1 ≤ k →
    ∃ r : ByteArray, damperref5_Text.l1 k s (i : Int) o l = some r ∧ r.data.toList = (spaced (p ++ (l.drop i).map (fun x => pc 61 (tgP x)))).drop 1
  | m, i, k, s, p, hm, hi, hs, hz, hk => by
    obtain ⟨k, rfl⟩ : ∃ j, k = j + 1 := ⟨k - 1, by omega⟩
    rw [damperref5_Text.l1]
    by_cases h1 : i < l.length
    · have hx := h _ (List.getElem_mem h1)
      have e1 : (⟨#[32]⟩ : ByteArray).size = 1 := rfl
      have e2 : (⟨#[61]⟩ : ByteArray).size = 1 := rfl
      rw [if_pos (by omega), rd35 l i h1, if_pos (by omega), if_pos (by omega), if_pos (by simp only [ByteArray.size_append]; omega), if_pos (by simp only [ByteArray.size_append]; omega), if_pos (by simp only [ByteArray.size_append]; omega), w64_small _ (by omega) (by omega), show ((i : Int) + 1) = ((i + 1 : Nat) : Int) by omega]
      obtain ⟨r, hr, he⟩ := rtext_l1 o l hl h (m - 1) (i + 1) k (s ++ (⟨#[32]⟩ : ByteArray) ++ l[i].f0 ++ (⟨#[61]⟩ : ByteArray) ++ l[i].f1) (p ++ [pc 61 (tgP l[i])]) (by omega) (by omega) (by rw [spaced_snoc, ← hs]; simp [pc, tgP]) (by simp only [ByteArray.size_append]; omega) (by omega)
      refine ⟨r, hr, ?_⟩
      rw [he, List.drop_eq_getElem_cons h1, List.map_cons, List.append_assoc, List.singleton_append]
    · rw [if_neg (by omega), List.drop_of_length_le (show l.length ≤ i by omega), List.map_nil, List.append_nil, Lib.toList_data, ← hs]
      by_cases c : s.data.toList = []
      · rw [if_pos c]; exact ⟨_, rfl, by rw [c]; rfl⟩
      · have hpos : 1 ≤ s.size := by
          have : s.size = s.data.toList.length := rfl
          rw [this]; exact List.length_pos_iff.2 c
        rw [if_neg c, if_pos (by omega)]
        refine ⟨_, rfl, ?_⟩
        have hx : (s.extract 1 s.size).data.toList = (s.data.toList.drop 1).take (s.size - 1) := by simp [ByteArray.data_extract, Array.toList_extract, List.extract]
        rw [hx, List.take_of_length_le]
        rw [List.length_drop]
        exact Nat.le_refl _
set_option maxRecDepth 100000 in
theorem rtext_l0 (l : List S32) (t : List S35) (hl : l.length ≤ 20) (ht : t.length ≤ 20) (h : ∀ x ∈ l, x.f0.size ≤ 100 ∧ 0 ≤ x.f1 ∧ x.f1 ≤ 999) (h2 : ∀ x ∈ t, x.f0.size ≤ 100 ∧ x.f1.size ≤ 100) : ∀ (m i k : Nat) (s : ByteArray) (p : List ByteArray), l.length - i = m → i ≤ l.length → s.data.toList = spaced p → s.size ≤ 300 * i → m + 40 ≤ k →
    ∃ r : ByteArray, damperref5_Text.l0 k s (i : Int) l t = some r ∧ r.data.toList = (spaced (p ++ (l.drop i).map (fun x => pc 58 (shP x)) ++ t.map (fun x => pc 61 (tgP x)))).drop 1
  | m, i, k, s, p, hm, hi, hs, hz, hk => by
    obtain ⟨k, rfl⟩ : ∃ j, k = j + 1 := ⟨k - 1, by omega⟩
    rw [damperref5_Text.l0]
    by_cases h1 : i < l.length
    · have hx := h _ (List.getElem_mem h1)
      have hil := itoa_len hx.2.1 hx.2.2
      have e1 : (⟨#[32]⟩ : ByteArray).size = 1 := rfl
      have e2 : (⟨#[58]⟩ : ByteArray).size = 1 := rfl
      have e3 : (⟨(Lib.itoa l[i].f1).toArray⟩ : ByteArray).size = (Lib.itoa l[i].f1).length := by simp [ByteArray.size]
      rw [if_pos (by omega), rd32 l i h1, if_pos (by omega), if_pos (by omega), if_pos (by simp only [ByteArray.size_append]; omega), if_pos (by simp only [ByteArray.size_append]; omega), rd_digits hx.2.1 hx.2.2 k (by omega), Option.bind_some, if_pos (by simp only [ByteArray.size_append]; omega), w64_small _ (by omega) (by omega), show ((i : Int) + 1) = ((i + 1 : Nat) : Int) by omega]
      obtain ⟨r, hr, he⟩ := rtext_l0 l t hl ht h h2 (m - 1) (i + 1) k (s ++ (⟨#[32]⟩ : ByteArray) ++ l[i].f0 ++ (⟨#[58]⟩ : ByteArray) ++ ⟨(Lib.itoa l[i].f1).toArray⟩) (p ++ [pc 58 (shP l[i])]) (by omega) (by omega) (by rw [spaced_snoc, ← hs]; simp [pc, shP]) (by simp only [ByteArray.size_append]; omega) (by omega)
      refine ⟨r, hr, ?_⟩
      rw [he, List.drop_eq_getElem_cons h1, List.map_cons, List.append_assoc p, List.singleton_append]
    · rw [if_neg (by omega), List.drop_of_length_le (show l.length ≤ i by omega), List.map_nil, List.append_nil]
      have := rtext_l1 l t ht h2 t.length 0 k s p (by omega) (by omega) hs (by omega) (by omega)
      rw [show ((0 : Nat) : Int) = 0 from rfl, List.drop_zero] at this
      exact this
theorem join_spaced (l : List ByteArray) : (spaced l).drop 1 = Lib.join (l.map (·.data.toList)) [32] := by
  cases l with
  | nil => rfl
  | cons x l => rw [List.map_cons, Lib.join_cons]; simp [spaced, Lib.joinTail]
theorem rtext_eq {l : List S32} {t : List S35} (h : Small l t) (k : Nat) (hk : 100 ≤ k) : damperref5_Text.f k l t = some (joinB (pieces l t)) := by
  unfold damperref5_Text.f
  obtain ⟨r, hr, he⟩ := rtext_l0 l t h.1 h.2.1 h.2.2.1 h.2.2.2 l.length 0 k ⟨#[]⟩ [] (by omega) (by omega) rfl (by show 0 ≤ _; omega) (by have := h.1; omega)
  rw [show ((0 : Nat) : Int) = 0 from rfl] at hr
  rw [hr]
  congr 1
  apply ba_ext
  rw [he, join_spaced]
  simp [joinB, pieces, List.map_map, Function.comp_def]
set_option maxRecDepth 100000 in
theorem picks_l1 {l : List S32} {t : List S35} {l2 : List S32} {t2 : List S35} (hS : Small l t) (h2 : Small l2 t2) (ns ms : List Int) (hM : ∀ k, 40 ≤ k → damperlaw5_Make.f k ns ms = some (l, t)) (tags : List ByteArray) (hl : tags.length ≤ 100) : ∀ (m i k : Nat), tags.length - i = m → i ≤ tags.length → m + 2200 ≤ k →
    damperlaw5_TablePicks.l1 k ns ms tags (i : Int) l t l2 t2 = some true
  | m, i, k, hm, hi, hk => by
    obtain ⟨k, rfl⟩ : ∃ j, k = j + 1 := ⟨k - 1, by omega⟩
    rw [damperlaw5_TablePicks.l1]
    by_cases h : i < tags.length
    · rw [if_pos (by omega), if_pos (by omega), byTag_eq hS _ k (by omega), Option.bind_some, rbyTag_eq hS _ k (by omega), Option.bind_some, if_pos rfl, bne_self_eq_false, if_neg (by decide), w64_small _ (by omega) (by omega), show ((i : Int) + 1) = ((i + 1 : Nat) : Int) by omega]
      exact picks_l1 hS h2 ns ms hM tags hl (m - 1) (i + 1) k (by omega) (by omega) (by omega)
    · rw [if_neg (by omega), sameT_eq hS h2 k (by omega), Option.bind_some, rsameT_eq hS h2 k (by omega), Option.bind_some, beq_self_eq_true, if_pos rfl, hM k (by omega), Option.bind_some]
      simp only
      rw [sameT_eq hS hS k (by omega), Option.bind_some, sameB_refl, if_pos rfl, text_eq hS k (by omega), Option.bind_some, rtext_eq hS k (by omega), Option.bind_some, beq_self_eq_true]
set_option maxRecDepth 100000 in
theorem picks_l0 {l : List S32} {t : List S35} {l2 : List S32} {t2 : List S35} (hS : Small l t) (h2 : Small l2 t2) (ns ms : List Int) (hM : ∀ k, 40 ≤ k → damperlaw5_Make.f k ns ms = some (l, t)) (ds : List Int) (hl : ds.length ≤ 100) : ∀ (m i k : Nat), ds.length - i = m → i ≤ ds.length → m + 2400 ≤ k →
    damperlaw5_TablePicks.l0 k ns ms ds (i : Int) l t l2 t2 = some true
  | m, i, k, hm, hi, hk => by
    obtain ⟨k, rfl⟩ : ∃ j, k = j + 1 := ⟨k - 1, by omega⟩
    rw [damperlaw5_TablePicks.l0]
    by_cases h : i < ds.length
    · rw [if_pos (by omega), if_pos (by omega), pick_eq hS _ k (by omega), Option.bind_some, rpick_eq hS _ k (by omega), Option.bind_some, if_pos rfl, w64_small _ (by omega) (by omega), show ((i : Int) + 1) = ((i + 1 : Nat) : Int) by omega]
      exact picks_l0 hS h2 ns ms hM ds hl (m - 1) (i + 1) k (by omega) (by omega) (by omega)
    · rw [if_neg (by omega)]
      exact picks_l1 hS h2 ns ms hM _ (by decide) 6 0 k (by decide) (by decide) (by omega)
theorem make_all (ns ms : List Int) (hns : ns.length ≤ 9223372036854775807) (hms : ms.length ≤ 9223372036854775807) : ∃ l t, GoodS l ∧ GoodT t ∧ ∀ k, 40 ≤ k → damperlaw5_Make.f k ns ms = some (l, t) := by
  obtain ⟨l, t, hl, ht, he⟩ := make_ok ns ms hns hms 40 (by omega)
  refine ⟨l, t, hl, ht, fun k hk => ?_⟩
  obtain ⟨l2, t2, _, _, he2⟩ := make_ok ns ms hns hms k hk
  have up : ∀ n, LeO (damperlaw5_Make.f 40 ns ms) (damperlaw5_Make.f (40 + n) ns ms) := by
    intro n
    induction n with
    | zero => exact LeO.refl _
    | succ n ih => exact fun r hr => damperlaw5_Make.mono ns ms (40 + n) r (ih r hr)
  have := up (k - 40) _ he
  rwa [show 40 + (k - 40) = k by omega] at this
theorem TablePicks : damperlaw5_TablePicks.Pure := by
  intro l0 l1 a2 l3 l4 w0 w1 _ w3 w4
  obtain ⟨l, t, hl, ht, hM⟩ := make_all l0 l1 w0.1 w1.1
  obtain ⟨l', t', hl', ht', hM'⟩ := make_all l3 l4 w3.1 w4.1
  have hS := small_of hl ht
  have hS' := small_of hl' ht'
  refine ⟨3000, ?_⟩
  unfold damperlaw5_TablePicks.f
  rw [known_ok 3000 (by omega), Option.bind_some, if_pos rfl, hM 3000 (by omega), Option.bind_some, hM' 3000 (by omega), Option.bind_some]
  exact picks_l0 hS hS' l0 l1 hM _ (by simp) 8 0 3000 (by simp) (by omega) (by omega)
end Go.Proofs.YtckcimahclpdfaaDoor.Pure
