/- Any bytes are cut in the document's pieces; pieces that were put behind one another, each behind its length, are cut so. -/
import Derived.Test.YtalpoojepffldaaDoorMax21
import Derived.Test.YtalpoojepffldaaDoorMax22
import Derived.Test.YtalpoojepffldaaDoorMax37
import Derived.Test.YtalpoojepffldaaDoorMax38
import Derived.Laws.BitsLemmas
namespace Go.Proofs.YtalpoojepffldaaDoor.Pure
open Go.RowKit Go.Proofs.YtalpoojepffldaaDoor.Ma Go.Proofs.YtalpoojepffldaaDoorW.PrintWords Go.Proofs.YtalpoojepffldaaDoorW.PrintLast
set_option linter.unusedVariables false
set_option linter.unusedSimpArgs false

theorem w64s (n : Int) (h0 : -9223372036854775808 ≤ n) (h1 : n ≤ 9223372036854775807) : wrap64 n = n := by unfold wrap64; omega
theorem wraps_i64 (n : Int) (h₀ : 0 ≤ n) (h₁ : n < 2 ^ 63) : IntKind.i64.wrap n = n := by rw [IntKind.wrap_i64]; omega
theorem hd2_eq (x y : Int) (hx : 0 ≤ x ∧ x ≤ 255) (hy : 0 ≤ y ∧ y ≤ 255) : hd2 x y = x * 256 + y := by
  unfold hd2
  rw [w64s x (by omega) (by omega), w64s y (by omega) (by omega), w64s (x * 256) (by omega) (by omega)]
  exact bits_join .i64 63 (by decide) wraps_i64 8 _ _ (by omega) (by omega) (by omega) (by omega) (by omega) (by omega)
theorem cutN_nat (x y : Int) (n : Nat) (hx : 0 ≤ x ∧ x ≤ 255) (hy : 0 ≤ y ∧ y ≤ 255) (hn : n ≤ 1000000) : ∃ N : Nat, N ≤ n ∧ cutN x y n = (N : Int) := by
  have hh := hd2_eq x y hx hy
  unfold cutN
  rw [w64s _ (by omega) (by omega)]
  split
  · exact ⟨n, Nat.le_refl _, rfl⟩
  · exact ⟨(hd2 x y).toNat, by omega, by omega⟩
theorem cutO_some : ∀ (k : Nat) (l : List Int), (∀ y ∈ l, 0 ≤ y ∧ y ≤ 255) → l.length ≤ k → ∃ r, cutO k l = some r
  | 0, l, _, _ => ⟨[], by simp [cutO]⟩
  | k + 1, [], _, _ => ⟨[], by simp [cutO]⟩
  | k + 1, [x], _, _ => ⟨[[x]], by simp [cutO]⟩
  | k + 1, x :: y :: l, h, hk => by
    have hh := hd2_eq x y (h x (by simp)) (h y (by simp))
    have hx := h x (by simp)
    have hy := h y (by simp)
    obtain ⟨r, hr⟩ := cutO_some k (l.drop (cutN x y l.length).toNat) (fun z hz => h z (by simp [List.mem_of_mem_drop hz])) (by rw [List.length_drop]; simp at hk; omega)
    rw [cutO, if_pos (by omega), hr]
    exact ⟨_, rfl⟩
/-- The document's way to cut comes to the same pieces. -/
theorem ref_l0 : ∀ (fuel : Nat) (l : List Int) (r acc : List (List Int)) (k : Nat), (∀ y ∈ l, 0 ≤ y ∧ y ≤ 255) → l.length ≤ fuel → fuel ≤ 5000 → cutO fuel l = some r → fuel + 1 ≤ k → acc.length + l.length ≤ 5000 → damperref3_Cut.l0 k l acc = some (acc ++ r)
  | fuel, [], r, acc, k, hb, hl, hf, hc, hk, ha => by
    obtain ⟨k, rfl⟩ : ∃ j, k = j + 1 := ⟨k - 1, by omega⟩
    have : r = [] := by cases fuel <;> simp [cutO] at hc <;> simpa using hc
    subst this
    rw [damperref3_Cut.l0, if_neg (by simp)]
    simp
  | 0, x :: l, r, acc, k, hb, hl, hf, hc, hk, ha => by simp at hl
  | fuel + 1, [x], r, acc, k, hb, hl, hf, hc, hk, ha => by
    obtain ⟨k, rfl⟩ : ∃ j, k = j + 1 := ⟨k - 1, by omega⟩
    have : r = [[x]] := by simp [cutO] at hc; exact hc.symm
    subst this
    simp at ha
    rw [damperref3_Cut.l0, if_pos (by simp), if_pos (by simp), Option.bind_some, if_pos (by simp), if_pos (by omega)]
    simp
  | fuel + 1, x :: y :: l, r, acc, k, hb, hl, hf, hc, hk, ha => by
    obtain ⟨k, rfl⟩ : ∃ j, k = j + 1 := ⟨k - 1, by omega⟩
    have hx := hb x (by simp)
    have hy := hb y (by simp)
    have hh := hd2_eq x y hx hy
    have hlen : (x :: y :: l).length = l.length + 2 := by simp
    rw [hlen] at hl ha
    obtain ⟨N, hNl, hN⟩ := cutN_nat x y l.length hx hy (by omega)
    rw [cutO, if_pos (by omega), hN, Int.toNat_natCast] at hc
    obtain ⟨tail, ht, rfl⟩ := Option.map_eq_some_iff.1 hc
    have e0 : rd (x :: y :: l) 0 = x := rfl
    have e1 : rd (x :: y :: l) 1 = y := rfl
    have hmn : mn (hd2 x y) (l.length : Int) = (N : Int) := by
      rw [← hN]
      unfold mn cutN
      rw [w64s (l.length : Int) (by omega) (by omega)]
    have hw : wrap64 (2 + mn (Go.bits .or .i64 (wrap64 ((wrap64 (rd (x :: y :: l) 0)) * 256)) (wrap64 (rd (x :: y :: l) 1))) (wrap64 (((x :: y :: l).length : Int) - 2))) = ((N + 2 : Nat) : Int) := by
      rw [e0, e1, hlen, w64s (((l.length + 2 : Nat) : Int) - 2) (by omega) (by omega), show (((l.length + 2 : Nat) : Int) - 2) = (l.length : Int) by omega]
      show wrap64 (2 + mn (hd2 x y) (l.length : Int)) = _
      rw [hmn, w64s _ (by omega) (by omega)]
      omega
    rw [damperref3_Cut.l0]
    simp only [hw]
    rw [if_pos (by rw [hlen]; omega), if_neg (by rw [hlen]; omega), if_pos (by rw [hlen]; omega), if_pos (by rw [hlen]; omega), Option.bind_some, if_pos (by omega), if_pos (by rw [hlen]; omega), Option.bind_some]
    have hd : ((x :: y :: l).take ((N + 2 : Nat) : Int).toNat).drop 2 = l.take N := by rw [Int.toNat_natCast]; rfl
    have hd2 : (x :: y :: l).drop ((N + 2 : Nat) : Int).toNat = l.drop N := by rw [Int.toNat_natCast]; rfl
    rw [hd, hd2, if_pos (by rw [List.length_take]; simp; omega), if_pos (by omega), if_pos (by omega), List.nil_append]
    rw [ref_l0 fuel (l.drop N) tail (acc ++ [l.take N]) k (fun z hz => hb z (by simp [List.mem_of_mem_drop hz])) (by rw [List.length_drop]; omega) (by omega) ht (by omega) (by rw [List.length_append, List.length_drop]; simp; omega)]
    simp
theorem cutM_le (r : List Int) : cutM r ≤ r.length ∧ cutM r ≤ 300 := by unfold cutM; split <;> omega
/-- What was laid behind its length is cut so. -/
theorem cut_flat : ∀ (l : List (List Int)) (k : Nat), (flatRows l).length ≤ k → l.length ≤ 12 → cutO k (flatRows l) = some (l.map fun x => x.take (cutM x))
  | [], k, _, _ => by cases k <;> simp [flatRows, cutO]
  | r :: l, k, hk, h12 => by
    obtain ⟨hM, hM3⟩ := cutM_le r
    have hfl := flatRows_len l
    simp only [List.length_cons] at h12
    have e : flatRows (r :: l) = (((cutM r : Int) / 256) % 256) :: ((cutM r : Int) % 256) :: (r.take (cutM r) ++ flatRows l) := by
      simp [flatRows, cutRow]
    have hlt : (r.take (cutM r)).length = cutM r := by rw [List.length_take]; omega
    rw [e] at hk ⊢
    simp only [List.length_cons, List.length_append, hlt] at hk
    obtain ⟨k, rfl⟩ : ∃ j, k = j + 1 := ⟨k - 1, by omega⟩
    have hh := hd2_eq (((cutM r : Int) / 256) % 256) ((cutM r : Int) % 256) (by omega) (by omega)
    have hh2 : hd2 (((cutM r : Int) / 256) % 256) ((cutM r : Int) % 256) = (cutM r : Int) := by rw [hh]; omega
    have hN : cutN (((cutM r : Int) / 256) % 256) ((cutM r : Int) % 256) (r.take (cutM r) ++ flatRows l).length = (cutM r : Int) := by
      unfold cutN
      rw [hh2, List.length_append, hlt, w64s _ (by omega) (by omega)]
      split
      · omega
      · rfl
    rw [cutO, if_pos (by omega), hN, Int.toNat_natCast, List.drop_left' hlt, List.take_left' hlt, cut_flat l k (by omega) (by omega)]
    rfl
theorem same_cut {k : Nat} {x : List Int} (hb : ∀ y ∈ x, 0 ≤ y ∧ y ≤ 255) (hl : x.length ≤ 4000) (hk : 4001 ≤ k) : sameCut k x = true := by
  obtain ⟨r, hr⟩ := cutO_some x.length x hb (Nat.le_refl _)
  have h1 : event_Cut.f x = some r := by unfold event_Cut.f; rw [if_pos (by omega), hr]
  have h2 : damperref3_Cut.f k x = some r := by
    unfold damperref3_Cut.f
    rw [ref_l0 x.length x r [] k hb (Nat.le_refl _) (by omega) hr (by omega) (by simp; omega)]
    rfl
  unfold sameCut
  rw [h1, h2]
  simp
theorem flat_bytes : ∀ (l : List (List Int)), (∀ r ∈ l, ∀ y ∈ r, 0 ≤ y ∧ y ≤ 255) → ∀ y ∈ flatRows l, 0 ≤ y ∧ y ≤ 255
  | [], _, y, hy => by simp [flatRows] at hy
  | r :: l, h, y, hy => by
    simp only [flatRows, List.flatMap_cons, List.mem_append] at hy
    rcases hy with hy | hy
    · simp only [cutRow, List.mem_append, List.mem_cons, List.not_mem_nil, or_false] at hy
      rcases hy with (rfl | rfl) | hy
      · omega
      · omega
      · exact h r (by simp) y (List.mem_of_mem_take hy)
    · exact flat_bytes l (fun r hr => h r (by simp [hr])) y hy
theorem u8_bd {y : Int} (h : (Lit.int .u8 y).wf = true) : 0 ≤ y ∧ y ≤ 255 := by
  have h2 : IntKind.u8.min ≤ y ∧ y ≤ IntKind.u8.max := by simpa [Lit.wf] using h
  have e1 : IntKind.u8.min = 0 := by decide
  have e2 : IntKind.u8.max = 255 := by decide
  omega
theorem EventCuts : damperlaw3_EventCuts.Pure := by
  intro l0 l1 a2 w0 w1 _
  have h0 : ∀ y ∈ l0, 0 ≤ y ∧ y ≤ 255 := fun y hy => u8_bd (w0.2 y hy)
  have h1 : ∀ r ∈ l1, ∀ y ∈ r, 0 ≤ y ∧ y ≤ 255 := fun r hr y hy => u8_bd ((w1.2 r hr).2 y hy)
  refine ⟨4001, ?_⟩
  unfold damperlaw3_EventCuts.f
  rw [if_pos (show damperlaw3_known.f = some true from rfl)]
  by_cases hs : 300 < l0.length ∨ 12 < l1.length
  · rw [if_pos hs]
  rw [if_neg hs]
  have hf := flatRows_len l1
  have hfb := flat_bytes l1 h1
  refine if_pos ⟨⟨same_cut h0 (by omega) (by omega), same_cut hfb (by omega) (by omega), same_cut (fun y hy => hfb y (List.mem_of_mem_take hy)) (by rw [List.length_take]; omega) (by omega)⟩, ?_⟩
  unfold event_Cut.f
  rw [if_pos (by omega)]
  exact cut_flat l1 _ (Nat.le_refl _) (by omega)
end Go.Proofs.YtalpoojepffldaaDoor.Pure
