/- A hundred in so many even parts, the rest by the last one, may be, with up to six; with more it is too long. -/
import Derived.Test.YthdpnbfjpbiieaaDoorMax0
import Derived.Test.YthdpnbfjpbiieaaDoorMax3
import Derived.Test.YthdpnbfjpbiieaaDoorMax11
import Derived.Test.YthdpnbfjpbiieaaDoorMax28
import Derived.Test.YthdpnbfjpbiieaaDoorMax31
import Derived.Test.YthdpnbfjpbiieaaDoorPlainG
namespace Go.Proofs.YthdpnbfjpbiieaaDoor.Pure
open Go.RowKit Go.Proofs.YthdpnbfjpbiieaaDoor.Ma Go.Proofs.YthdpnbfjpbiieaaDoorW.PrintWords Go.Proofs.YthdpnbfjpbiieaaDoorW.PrintLast Go.Proofs.YthdpnbfjpbiieaaDoor.Plain

/-- The part at place i of n; all of them. -/
def evenT (tags : Bool) (n i : Nat) : S41 := ⟨⟨#[]⟩, if tags then (⟨#[116]⟩ : ByteArray) ++ ⟨#[UInt8.ofNat (97 + i)]⟩ else ⟨#[]⟩, if i + 1 = n then 100 - ((n : Int) - 1) * (100 / (n : Int)) else 100 / (n : Int)⟩
def evens (tags : Bool) (n i : Nat) : List S41 := (List.range i).map (evenT tags n)
theorem evens_succ (tags : Bool) (n i : Nat) : evens tags n (i + 1) = evens tags n i ++ [evenT tags n i] := by
  unfold evens
  rw [List.range_succ, List.map_append]
  rfl
theorem eqT_refl (t : S41) : eqT t t = true := by unfold eqT; simp
theorem eqL_refl : ∀ l : List S41, eqL l l = true
  | [] => rfl
  | t :: ts => by rw [eqL, eqT_refl, eqL_refl ts]; rfl
theorem evens_size (tags : Bool) (n i : Nat) : ∀ t ∈ evens tags n i, t.f0.size ≤ 140737488351232 := by
  intro t ht
  unfold evens at ht
  obtain ⟨j, _, rfl⟩ := List.mem_map.1 ht
  exact Nat.zero_le _
theorem even_tg (n : Nat) (h0 : 1 ≤ n) (h8 : n ≤ 8) : ∀ (tags : Bool) (i : Nat), i < n → tgE (evenT tags n i) = 0 := by
  intro tags i hi
  have a : ¬ ((evenT tags n i).f0.toList ≠ [] ∧ (splitV (evenT tags n i).f0).2.2 = false) := fun h => h.1 nil_tl
  have hp : 0 ≤ (evenT tags n i).f2 ∧ (evenT tags n i).f2 ≤ 100 := by
    show 0 ≤ (if i + 1 = n then 100 - ((n : Int) - 1) * (100 / (n : Int)) else 100 / (n : Int)) ∧ (if i + 1 = n then 100 - ((n : Int) - 1) * (100 / (n : Int)) else 100 / (n : Int)) ≤ 100
    rcases (show n = 1 ∨ n = 2 ∨ n = 3 ∨ n = 4 ∨ n = 5 ∨ n = 6 ∨ n = 7 ∨ n = 8 by omega) with rfl | rfl | rfl | rfl | rfl | rfl | rfl | rfl <;> (split <;> decide)
  have b : ¬ ((evenT tags n i).f1.toList ≠ [] ∧ shortL (evenT tags n i).f1.data.toList 8 = false) := by
    rintro ⟨b1, b2⟩
    cases tags
    · exact b1 nil_tl
    · have : ∀ j : Nat, j < 8 → ¬ (shortL ((⟨#[116]⟩ : ByteArray) ++ ⟨#[UInt8.ofNat (97 + j)]⟩).data.toList 8 = false) := by decide
      exact this i (by omega) b2
  unfold tgE tgt
  rw [if_neg a, if_neg b, if_pos hp]
theorem evens_once (tags : Bool) (n : Nat) (h8 : n ≤ 8) : Once (evens tags n n) := by
  intro i j hi hj hij hne
  have hl : (evens tags n n).length = n := by unfold evens; simp
  have e : ∀ (k : Nat) (hk : k < (evens tags n n).length), (evens tags n n)[k] = evenT tags n k := by
    intro k hk
    simp only [evens, List.getElem_map, List.getElem_range]
  rw [e] at hne ⊢
  rw [e]
  cases tags
  · exact absurd nil_tl hne
  · have : ∀ i : Nat, i < 8 → ∀ j : Nat, j < 8 → i < j → (((⟨#[116]⟩ : ByteArray) ++ ⟨#[UInt8.ofNat (97 + i)]⟩).data.toList == ((⟨#[116]⟩ : ByteArray) ++ ⟨#[UInt8.ofNat (97 + j)]⟩).data.toList) = false := by decide
    show (((⟨#[116]⟩ : ByteArray) ++ ⟨#[UInt8.ofNat (97 + i)]⟩).toList == ((⟨#[116]⟩ : ByteArray) ++ ⟨#[UInt8.ofNat (97 + j)]⟩).toList) = false
    rw [Lib.toList_data, Lib.toList_data]
    exact this i (by omega) j (by omega) hij
theorem evens_sum (tags : Bool) : ∀ n : Nat, 1 ≤ n → n ≤ 8 → psum (evens tags n n) = 100 := by
  intro n h1 h8
  rcases (show n = 1 ∨ n = 2 ∨ n = 3 ∨ n = 4 ∨ n = 5 ∨ n = 6 ∨ n = 7 ∨ n = 8 by omega) with rfl | rfl | rfl | rfl | rfl | rfl | rfl | rfl <;> rfl
theorem evens_route (tags : Bool) (n : Nat) (h1 : 1 ≤ n) (h8 : n ≤ 8) : routeE ⟨#[114]⟩ ⟨#[97]⟩ (evens tags n n) 0 = if n ≤ 6 then 0 else 3 := by
  have hl : (evens tags n n).length = n := by unfold evens; simp
  have hm : ∀ t ∈ evens tags n n, tgE t = 0 := by
    intro t ht
    unfold evens at ht
    obtain ⟨j, hj, rfl⟩ := List.mem_map.1 ht
    exact even_tg n h1 h8 tags j (by simpa using hj)
  have hb : ∀ t ∈ evens tags n n, -200 ≤ t.f2 ∧ t.f2 ≤ 200 := by
    intro t ht
    have := hm t ht
    unfold tgE tgt at this
    split at this
    · cases this
    · split at this
      · cases this
      · split at this
        · omega
        · cases this
  unfold routeE
  rw [if_pos (by decide), if_pos (by decide), hl]
  by_cases h6 : n ≤ 6
  · rw [if_pos ⟨h1, h6⟩, if_pos h6, firstE_zero hm, if_pos rfl, all_sum _ [] 0 0 (by rw [List.nil_append]; exact evens_once tags n h8) hb (by omega) (by omega) (by omega), evens_sum tags n h1 h8, if_pos (by rfl)]
  · rw [if_neg (by omega), if_neg h6]
theorem even_j2 (k : Nat) (hk : 20 ≤ k) (tags : Bool) (n : Nat) (h1 : 1 ≤ n) (h8 : n ≤ 8) (v : Int) (hv : v = if n ≤ 6 then 0 else 3) : damperlaw2_SpecEven.j2 k v ⟨#[114]⟩ ⟨#[97]⟩ (evens tags n n) 0 = some true := by
  obtain ⟨k, rfl⟩ : ∃ j, k = j + 1 := ⟨k - 1, by omega⟩
  rw [damperlaw2_SpecEven.j2, route_eq _ (by omega) _ _ _ _ (evens_size tags n n), Option.bind_some, evens_route tags n h1 h8, if_pos hv.symm]
  unfold spec_SameRoute.f
  rw [Option.bind_some, eqL_refl]
  simp
theorem even_l0 (tags : Bool) (n : Nat) (h1 : 1 ≤ n) (h8 : n ≤ 8) : ∀ (m i k : Nat), n - i = m → i ≤ n → 2 * m + 30 ≤ k → damperlaw2_SpecEven.l0 k tags (n : Int) (i : Int) ⟨#[114]⟩ ⟨#[97]⟩ (evens tags n i) 0 = some true
  | m, i, k, hm, hi, hk => by
    obtain ⟨k, rfl⟩ : ∃ j, k = j + 2 := ⟨k - 2, by omega⟩
    rw [damperlaw2_SpecEven.l0]
    by_cases h : i < n
    · have hd : 0 ≤ (100 : Int) / (n : Int) ∧ (100 : Int) / (n : Int) ≤ 100 := by
        rcases (show n = 1 ∨ n = 2 ∨ n = 3 ∨ n = 4 ∨ n = 5 ∨ n = 6 ∨ n = 7 ∨ n = 8 by omega) with rfl | rfl | rfl | rfl | rfl | rfl | rfl | rfl <;> decide
      have hm2 : 0 ≤ ((n : Int) - 1) * (100 / (n : Int)) ∧ ((n : Int) - 1) * (100 / (n : Int)) ≤ 100 := by
        rcases (show n = 1 ∨ n = 2 ∨ n = 3 ∨ n = 4 ∨ n = 5 ∨ n = 6 ∨ n = 7 ∨ n = 8 by omega) with rfl | rfl | rfl | rfl | rfl | rfl | rfl | rfl <;> decide
      have hl : (evens tags n i).length = i := by unfold evens; simp
      have j : ∀ p : Int, p = (evenT tags n i).f2 → damperlaw2_SpecEven.j1 (k + 1) tags (n : Int) (i : Int) ⟨#[114]⟩ ⟨#[97]⟩ (evens tags n i) 0 ⟨#[]⟩ ⟨#[]⟩ p = some true := by
        intro p hp
        have hnext := even_l0 tags n h1 h8 (m - 1) (i + 1) k (by omega) (by omega) (by omega)
        rw [evens_succ] at hnext
        rw [damperlaw2_SpecEven.j1, w64_small ((i : Int) + 1) (by omega) (by omega), hl]
        cases tags
        · rw [if_neg (by decide), if_pos (by omega), hp]
          exact hnext
        · rw [if_pos rfl, Option.bind_some, w64_small (97 + (i : Int)) (by omega) (by omega), show (97 + (i : Int)) % 256 = 97 + (i : Int) by omega, one_byte _ (by omega) (by omega), show (97 + (i : Int)).toNat = 97 + i by omega, if_pos (by show 1 + 1 ≤ _; omega), if_pos (by omega), hp]
          exact hnext
      rw [if_pos (by omega), if_neg (by omega), Int.tdiv_eq_ediv_of_nonneg (by decide), w64_small ((n : Int) - 1) (by omega) (by omega), w64_small ((100 : Int) / (n : Int)) (by omega) (by omega), w64_small (((n : Int) - 1) * (100 / (n : Int))) (by omega) (by omega), w64_small (100 - ((n : Int) - 1) * (100 / (n : Int))) (by omega) (by omega)]
      by_cases hl1 : (i : Int) = (n : Int) - 1
      · rw [if_pos hl1]
        exact j _ (by show _ = if i + 1 = n then 100 - ((n : Int) - 1) * (100 / (n : Int)) else 100 / (n : Int); rw [if_pos (by omega)])
      · rw [if_neg hl1]
        exact j _ (by show _ = if i + 1 = n then 100 - ((n : Int) - 1) * (100 / (n : Int)) else 100 / (n : Int); rw [if_neg (by omega)])
    · obtain rfl : i = n := by omega
      rw [if_neg (by omega)]
      by_cases h6 : (i : Int) > 6
      · rw [if_pos h6]; exact even_j2 _ (by omega) tags i h1 h8 _ (by rw [if_neg (by omega)])
      · rw [if_neg h6]; exact even_j2 _ (by omega) tags i h1 h8 _ (by rw [if_pos (by omega)])
theorem SpecEven : damperlaw2_SpecEven.Pure := by
  intro a0 a1 _
  refine ⟨60, ?_⟩
  unfold damperlaw2_SpecEven.f
  rw [show (60 : Nat) = 50 + 10 from rfl, known_ok, Option.bind_some, if_pos rfl]
  have w := wi_in a0 8 (by decide) (by decide)
  generalize wi a0 8 = q at w ⊢
  obtain ⟨q, rfl⟩ := Int.eq_ofNat_of_zero_le w.1
  rw [w64_small _ (by omega) (by omega), show (1 + (q : Int)) = ((1 + q : Nat) : Int) by omega]
  exact even_l0 a1 (1 + q) (by omega) (by omega) (1 + q) 0 _ (by omega) (by omega) (by omega)
end Go.Proofs.YthdpnbfjpbiieaaDoor.Pure
