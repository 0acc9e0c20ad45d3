/- A draw a hundred further leads to the same; and where it leads is a name of the table's. -/
import Derived.Test.YtckcimahclpdfaaDoorMax0
import Derived.Test.YtckcimahclpdfaaDoorMax16
import Derived.Test.YtckcimahclpdfaaDoorPlainV
namespace Go.Proofs.YtckcimahclpdfaaDoor.Pure
open Go.RowKit Go.Proofs.YtckcimahclpdfaaDoor.Ma Go.Proofs.YtckcimahclpdfaaDoorW.PrintWords Go.Proofs.YtckcimahclpdfaaDoorW.PrintLast Go.Proofs.YtckcimahclpdfaaDoor.Plain
set_option linter.unusedVariables false
set_option linter.unusedSimpArgs false

theorem pick_mem : ∀ (l : List S32) (d : Int), (∀ x ∈ l, 1 ≤ x.f1 ∧ x.f1 ≤ 100) → 0 ≤ d → d < sumS l → l.any (fun x => x.f0.toList == (pickL l d).toList) = true
  | [], d, _, h0, h1 => by simp [sumS] at h1; omega
  | x :: l, d, h, h0, h1 => by
    rw [pickL, List.any_cons]
    by_cases c : d < x.f1
    · rw [if_pos c, beq_self_eq_true, Bool.true_or]
    · rw [if_neg c, pick_mem l (d - x.f1) (fun y hy => h y (by simp [hy])) (by omega) (by rw [sumS] at h1; omega), Bool.or_true]
theorem in100_far (d : Int) (q : Int) : in100 (d + 100 * q) = in100 d := by
  have a := in100_in d
  have b := in100_in (d + 100 * q)
  obtain ⟨a0, a1, p, hp⟩ := a
  obtain ⟨b0, b1, s, hs⟩ := b
  omega
theorem shift_l0 {l : List S32} {t : List S35} (hS : Small l t) (a2 d : Int) (r : ByteArray) (hd : 0 ≤ d ∧ d < 1099511627776) (hr : r = pickL l (in100 d)) : ∀ (m i k : Nat) (b : Bool), l.length - i = m → i ≤ l.length → (b || (l.drop i).any (fun x => x.f0.toList == r.toList)) = true → m + 40 ≤ k →
    damperlaw5_TableShift.l0 k a2 d r b (i : Int) l t = some true
  | m, i, k, b, hm, hi, hb, hk => by
    obtain ⟨k, rfl⟩ : ∃ j, k = j + 1 := ⟨k - 1, by omega⟩
    have hl := hS.1
    rw [damperlaw5_TableShift.l0]
    by_cases h : i < l.length
    · rw [if_pos (by omega), w64_small ((i : Int) + 1) (by omega) (by omega), show ((i : Int) + 1) = ((i + 1 : Nat) : Int) by omega]
      cases b with
      | true => rw [if_pos rfl]; exact shift_l0 hS a2 d r hd hr (m - 1) (i + 1) k true (by omega) (by omega) rfl (by omega)
      | false =>
        rw [if_neg (by decide), if_pos (by omega), rd32 l i h]
        rw [List.drop_eq_getElem_cons h, List.any_cons, Bool.false_or] at hb
        exact shift_l0 hS a2 d r hd hr (m - 1) (i + 1) k _ (by omega) (by omega) hb (by omega)
    · rw [List.drop_of_length_le (by omega), List.any_nil, Bool.or_false] at hb
      subst hb
      have w := wi_in a2 1000 (by decide) (by decide)
      generalize wi a2 1000 = q at w ⊢
      rw [if_neg (by omega), if_pos rfl, w64_small (100 * q) (by omega) (by omega), w64_small (d + 100 * q) (by omega) (by omega), w64_small (d - 100 * q) (by omega) (by omega),
        pick_eq hS _ k (by omega), Option.bind_some, in100_far, ← hr, if_pos rfl, pick_eq hS _ k (by omega), Option.bind_some, show d - 100 * q = d + 100 * (-q) by omega, in100_far, ← hr, beq_self_eq_true]
theorem TableShift : damperlaw5_TableShift.Pure := by
  intro l0 a1 a2 w0 _ _
  have hm0 : l0.length ≤ 9223372036854775807 := w0.1
  refine ⟨2200, ?_⟩
  unfold damperlaw5_TableShift.f
  rw [known_ok 2200 (by omega), Option.bind_some, if_pos rfl]
  obtain ⟨l, t, hl, ht, he⟩ := make_ok l0 [] hm0 (by simp) 2200 (by omega)
  have hS := small_of hl ht
  rw [he, Option.bind_some]
  simp only
  have w := wi_in a1 1099511627776 (by decide) (by decide)
  generalize wi a1 1099511627776 = d at w ⊢
  rw [pick_eq hS d 2200 (by omega), Option.bind_some]
  have hi := in100_in d
  have hmem := pick_mem l (in100 d) hl.2.1 hi.1 (by have := hl.2.2; omega)
  exact shift_l0 hS a2 d _ w rfl l.length 0 2200 false (by omega) (by omega) (by rw [List.drop_zero, Bool.false_or]; exact hmem) (by have := hS.1; omega)
end Go.Proofs.YtckcimahclpdfaaDoor.Pure
