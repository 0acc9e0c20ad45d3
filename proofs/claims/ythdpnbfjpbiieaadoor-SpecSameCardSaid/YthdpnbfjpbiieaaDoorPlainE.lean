/- Plain laws of routes that are the same. -/
import Derived.Test.YthdpnbfjpbiieaaDoorMax0
import Derived.Test.YthdpnbfjpbiieaaDoorMax28
import Derived.Test.YthdpnbfjpbiieaaDoorMax29
import Derived.Test.YthdpnbfjpbiieaaDoorPlainG
namespace Go.Proofs.YthdpnbfjpbiieaaDoor.Plain
open Go.RowKit Go.Proofs.YthdpnbfjpbiieaaDoor.Ma Go.Proofs.YthdpnbfjpbiieaaDoorW.PrintWords Go.Proofs.YthdpnbfjpbiieaaDoorW.PrintLast

/-- Are two routes the same? -/
def sameE (n c : ByteArray) (l : List S41) (r : Int) (n2 c2 : ByteArray) (l2 : List S41) (r2 : Int) : Bool := n.toList == n2.toList && c.toList == c2.toList && r == r2 && eqL l l2
theorem same_eq (n c : ByteArray) (l : List S41) (r : Int) (n2 c2 : ByteArray) (l2 : List S41) (r2 : Int) : spec_SameRoute.f n c l r n2 c2 l2 r2 = some (sameE n c l r n2 c2 l2 r2) := rfl
theorem eqT_refl (t : S41) : eqT t t = true := by unfold eqT; simp
theorem eqL_refl : ∀ l : List S41, eqL l l = true
  | [] => rfl
  | t :: ts => by rw [eqL, eqT_refl, eqL_refl ts]; rfl
theorem sameE_refl (n c : ByteArray) (l : List S41) (r : Int) : sameE n c l r n c l r = true := by unfold sameE; rw [eqL_refl]; simp
theorem rsame_l0 (n c : ByteArray) (l : List S41) (r : Int) (n2 c2 : ByteArray) (l2 : List S41) (r2 : Int) (hl : l.length = l2.length) (hb : l.length ≤ 9223372036854775806) : ∀ (m i k : Nat), l.length - i = m → i ≤ l.length → m + 1 ≤ k →
    damperref2_SameRoute.l0 k (i : Int) n c l r n2 c2 l2 r2 = some (eqL (l.drop i) (l2.drop i))
  | m, i, k, hm, hi, hk => by
    obtain ⟨k, rfl⟩ : ∃ j, k = j + 1 := ⟨k - 1, by omega⟩
    rw [damperref2_SameRoute.l0]
    by_cases h : i < l.length
    · have h2 : i < l2.length := by omega
      rw [if_pos (by omega), if_pos (by omega), if_pos (by omega), rd_at l i h, rd_at l2 i h2, List.drop_eq_getElem_cons h, List.drop_eq_getElem_cons h2, eqL, w64_small _ (by omega) (by omega), show ((i : Int) + 1) = ((i + 1 : Nat) : Int) by omega, rsame_l0 n c l r n2 c2 l2 r2 hl hb (m - 1) (i + 1) k (by omega) (by omega) (by omega)]
      unfold eqT
      cases (l[i].f0.toList == l2[i].f0.toList) <;> cases (l[i].f1.toList == l2[i].f1.toList) <;> cases (l[i].f2 == l2[i].f2) <;> rfl
    · rw [if_neg (by omega), List.drop_of_length_le (by omega), List.drop_of_length_le (by omega)]
      rfl
theorem rsame_eq (k : Nat) (n c : ByteArray) (l : List S41) (r : Int) (n2 c2 : ByteArray) (l2 : List S41) (r2 : Int) (hb : l.length ≤ 9223372036854775806) (hk : l.length + 3 ≤ k) : damperref2_SameRoute.f k n c l r n2 c2 l2 r2 = some (sameE n c l r n2 c2 l2 r2) := by
  obtain ⟨k, rfl⟩ : ∃ j, k = j + 1 := ⟨k - 1, by omega⟩
  have j : damperref2_SameRoute.j0 (k + 1) ((l.length : Int) != (l2.length : Int)) n c l r n2 c2 l2 r2 = some (eqL l l2) := by
    rw [damperref2_SameRoute.j0]
    by_cases hl : l.length = l2.length
    · rw [if_neg (by rw [hl]; simp)]
      have := rsame_l0 n c l r n2 c2 l2 r2 hl hb l.length 0 k (by omega) (by omega) (by omega)
      rwa [List.drop_zero, List.drop_zero] at this
    · rw [if_pos (by rw [bne_iff_ne]; omega), eqL_len _ _ hl]
  have jt : damperref2_SameRoute.j0 (k + 1) true n c l r n2 c2 l2 r2 = some false := by rw [damperref2_SameRoute.j0, if_pos rfl]
  unfold damperref2_SameRoute.f sameE
  rw [j, jt]
  by_cases h0 : n.toList = n2.toList
  · rw [if_pos h0, beq_iff_eq.2 h0]
    by_cases h1 : c.toList = c2.toList
    · rw [if_pos h1, beq_iff_eq.2 h1]
      by_cases h2 : r = r2
      · rw [if_pos h2, beq_iff_eq.2 h2]; simp
      · rw [if_neg h2, beq_eq_false_iff_ne.2 h2]; simp
    · rw [if_neg h1, beq_eq_false_iff_ne.2 h1]; simp
  · rw [if_neg h0, beq_eq_false_iff_ne.2 h0]; simp
end Go.Proofs.YthdpnbfjpbiieaaDoor.Plain
