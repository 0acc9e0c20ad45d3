/- Pieces are as long as their lengths say; the last one may be short; all bytes but the lengths are in one. -/
import Derived.Test.YtalpoojepffldaaDoorMax0
import Derived.Test.YtalpoojepffldaaDoorMax21
import Derived.Test.YtalpoojepffldaaDoorMax22
import Derived.Test.YtalpoojepffldaaDoorMax38
import Derived.Laws.BitsLemmas
namespace Go.Proofs.YtalpoojepffldaaDoor.Pure
open Go.RowKit Go.Proofs.YtalpoojepffldaaDoor.Ma Go.Proofs.YtalpoojepffldaaDoorW.PrintWords Go.Proofs.YtalpoojepffldaaDoorW.PrintLast
set_option linter.unusedVariables false
set_option linter.unusedSimpArgs false

theorem w64s (n : Int) (h0 : -9223372036854775808 ≤ n) (h1 : n ≤ 9223372036854775807) : wrap64 n = n := by unfold wrap64; omega
theorem wraps_i64 (n : Int) (h₀ : 0 ≤ n) (h₁ : n < 2 ^ 63) : IntKind.i64.wrap n = n := by rw [IntKind.wrap_i64]; omega
theorem hd2_eq (x y : Int) (hx : 0 ≤ x ∧ x ≤ 255) (hy : 0 ≤ y ∧ y ≤ 255) : hd2 x y = x * 256 + y := by
  unfold hd2
  rw [w64s x (by omega) (by omega), w64s y (by omega) (by omega), w64s (x * 256) (by omega) (by omega)]
  exact bits_join .i64 63 (by decide) wraps_i64 8 _ _ (by omega) (by omega) (by omega) (by omega) (by omega) (by omega)
theorem rd_drop {l r : List Int} {p : Nat} {x : Int} (h : l.drop p = x :: r) : rd l (p : Int) = x := by
  show l.getD p 0 = x
  rw [List.getD_eq_getElem?_getD]
  have := congrArg (fun q : List Int => q[0]?) h
  simp at this
  rw [this]; rfl
theorem rd4_drop {l r : List (List Int)} {p : Nat} {x : List Int} (h : l.drop p = x :: r) : rd_L4 l (p : Int) = x := by
  show l.getD p [] = x
  rw [List.getD_eq_getElem?_getD]
  have := congrArg (fun q : List (List Int) => q[0]?) h
  simp at this
  rw [this]; rfl
theorem drop_len {α : Type} {l r : List α} {p : Nat} (h : l.drop p = r) (hp : p ≤ l.length) : l.length = p + r.length := by
  have := congrArg List.length h
  rw [List.length_drop] at this
  omega
set_option maxRecDepth 100000 in
theorem pieces_l0 (l : List Int) (all : List (List Int)) (hl : l.length ≤ 400) (hw : ∀ y ∈ l, 0 ≤ y ∧ y ≤ 255) (ha : all.length ≤ 400) : ∀ (m p i k fuel : Nat), l.length - p = m → p ≤ l.length → i ≤ all.length → m ≤ fuel → cutO fuel (l.drop p) = some (all.drop i) → 2 * m + 2 ≤ k →
    damperlaw3_EventPieces.l0 k l all (p : Int) (i : Int) = some true
  | m, p, i, k, fuel, hm, hp, hi, hf, hc, hk => by
    obtain ⟨k, rfl⟩ : ∃ j, k = j + 2 := ⟨k - 2, by omega⟩
    rw [damperlaw3_EventPieces.l0]
    match hd : l.drop p with
    | [] =>
      have hlen := drop_len hd hp
      rw [hd] at hc
      have hall : all.drop i = [] := by
        cases fuel <;> simp [cutO] at hc <;> simpa using hc
      have hai := drop_len hall hi
      simp at hlen hai
      rw [if_neg (by omega)]
      simp; omega
    | [x] =>
      have hlen := drop_len hd hp
      simp at hlen
      rw [hd] at hc
      obtain ⟨fuel, rfl⟩ : ∃ j, fuel = j + 1 := ⟨fuel - 1, by omega⟩
      have hall : all.drop i = [[x]] := by
        simp [cutO] at hc; exact hc.symm
      have hai := drop_len hall hi
      simp at hai
      rw [if_pos (by omega), w64s _ (by omega) (by omega), if_pos (by omega), w64s _ (by omega) (by omega), if_pos (by omega), if_pos (by omega), rd4_drop hall, if_pos (by simp), if_pos (by simp), if_pos (by omega), if_pos (by omega), rd_drop hd]
      simp [rd]
    | x :: y :: r =>
      have hlen := drop_len hd hp
      simp at hlen
      rw [hd] at hc
      obtain ⟨fuel, rfl⟩ : ∃ j, fuel = j + 1 := ⟨fuel - 1, by omega⟩
      have hmem : ∀ z ∈ x :: y :: r, 0 ≤ z ∧ z ≤ 255 := fun z hz => hw z (List.mem_of_mem_drop (hd ▸ hz))
      have hx := hmem x (by simp)
      have hy := hmem y (by simp)
      have hh := hd2_eq x y hx hy
      have hd1 : l.drop (p + 1) = y :: r := by rw [← List.drop_drop, hd]; rfl
      have hd2' : l.drop (p + 2) = r := by rw [← List.drop_drop, hd]; rfl
      rw [cutO, if_pos (by omega)] at hc
      obtain ⟨N, hNle, hN⟩ : ∃ N : Nat, N ≤ r.length ∧ cutN x y r.length = (N : Int) := by
        unfold cutN
        rw [w64s _ (by omega) (by omega)]
        split
        · exact ⟨r.length, Nat.le_refl _, rfl⟩
        · exact ⟨(hd2 x y).toNat, by omega, by omega⟩
      have hmn : mn (x * 256 + y) (r.length : Int) = (N : Int) := by
        rw [← hN]
        unfold mn cutN
        rw [w64s (r.length : Int) (by omega) (by omega), hh]
      rw [hN, Int.toNat_natCast] at hc
      obtain ⟨tail, ht, hall⟩ := Option.map_eq_some_iff.1 hc
      have hall := hall.symm
      have hai := drop_len hall hi
      simp at hai
      have ht2 : all.drop (i + 1) = tail := by rw [← List.drop_drop, hall]; rfl
      rw [if_pos (by omega), w64s ((l.length : Int) - (p : Int)) (by omega) (by omega), if_neg (by omega), if_neg (by omega), if_pos (by omega), if_pos (by omega), w64s ((p : Int) + 1) (by omega) (by omega), if_pos (by omega), if_pos (by omega), rd_drop hd,
        show ((p : Int) + 1) = ((p + 1 : Nat) : Int) by omega, rd_drop hd1, w64s x (by omega) (by omega), w64s y (by omega) (by omega), w64s (x * 256) (by omega) (by omega), w64s (x * 256 + y) (by omega) (by omega), w64s ((p : Int) + 2) (by omega) (by omega),
        w64s ((l.length : Int) - ((p : Int) + 2)) (by omega) (by omega), show ((l.length : Int) - ((p : Int) + 2)) = (r.length : Int) by omega, hmn]
      rw [damperlaw3_EventPieces.j1, if_pos (by omega), if_pos (by omega), rd4_drop hall, if_pos (by rw [List.length_take]; omega), if_pos (by omega), w64s ((p : Int) + 2 + (N : Int)) (by omega) (by omega), if_pos (by omega), if_pos (by omega),
        show ((p : Int) + 2 + (N : Int)) = ((p + 2 + N : Nat) : Int) by omega, show ((p : Int) + 2) = ((p + 2 : Nat) : Int) by omega, Int.toNat_natCast, Int.toNat_natCast]
      have hs : (l.take (p + 2 + N)).drop (p + 2) = r.take N := by
        rw [List.drop_take, hd2', show p + 2 + N - (p + 2) = N by omega]
      rw [hs, if_pos rfl, w64s ((i : Int) + 1) (by omega) (by omega), show ((i : Int) + 1) = ((i + 1 : Nat) : Int) by omega]
      have hdN : l.drop (p + 2 + N) = r.drop N := by rw [← List.drop_drop, hd2']
      exact pieces_l0 l all hl hw ha (m - 2 - N) (p + 2 + N) (i + 1) k fuel (by omega) (by omega) (by omega) (by omega) (by rw [hdN, ht2]; exact ht) (by omega)
theorem cutO_some : ∀ (k : Nat) (l : List Int), (∀ y ∈ l, 0 ≤ y ∧ y ≤ 255) → l.length ≤ k → ∃ r, cutO k l = some r
  | 0, l, _, _ => ⟨[], by simp [cutO]⟩
  | k + 1, [], _, _ => ⟨[], by simp [cutO]⟩
  | k + 1, [x], _, _ => ⟨[[x]], by simp [cutO]⟩
  | k + 1, x :: y :: l, h, hk => by
    have hh := hd2_eq x y (h x (by simp)) (h y (by simp))
    have hx := h x (by simp)
    have hy := h y (by simp)
    obtain ⟨r, hr⟩ := cutO_some k (l.drop (cutN x y l.length).toNat) (fun z hz => h z (by simp [List.mem_of_mem_drop hz])) (by rw [List.length_drop]; simp at hk; omega)
    rw [cutO, if_pos (by omega), hr]
    exact ⟨_, rfl⟩
theorem EventPieces : damperlaw3_EventPieces.Pure := by
  intro l w
  have hw : ∀ y ∈ l, 0 ≤ y ∧ y ≤ 255 := fun y hy => by
    have h := w.2 y hy
    have h2 : IntKind.u8.min ≤ y ∧ y ≤ IntKind.u8.max := by simpa [Lit.wf] using h
    have e1 : IntKind.u8.min = 0 := by decide
    have e2 : IntKind.u8.max = 255 := by decide
    omega
  refine ⟨1000, ?_⟩
  unfold damperlaw3_EventPieces.f damperlaw3_known.f
  rw [Option.bind_some, if_pos rfl]
  by_cases h : (l.length : Int) > 400
  · rw [if_pos h]
  · rw [if_neg h, Option.bind_some, if_pos (by simp; omega), List.nil_append]
    obtain ⟨r, hr⟩ := cutO_some l.length l hw (Nat.le_refl _)
    have hlen := cutO_len _ _ _ hr
    unfold event_Cut.f
    rw [if_pos (by omega), hr, Option.bind_some]
    have := pieces_l0 l r (by omega) hw (by omega) l.length 0 0 1000 l.length (by omega) (by omega) (by omega) (by omega) (by rw [List.drop_zero, List.drop_zero]; exact hr) (by omega)
    exact this
end Go.Proofs.YtalpoojepffldaaDoor.Pure
