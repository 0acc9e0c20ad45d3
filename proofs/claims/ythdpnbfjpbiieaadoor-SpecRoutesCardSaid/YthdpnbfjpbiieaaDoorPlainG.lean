/- Plain laws of the routes that the statements draw: any numbers make a route that may be. -/
import Derived.Test.YthdpnbfjpbiieaaDoorMax0
import Derived.Test.YthdpnbfjpbiieaaDoorMax3
import Derived.Test.YthdpnbfjpbiieaaDoorMax11
import Derived.Test.YthdpnbfjpbiieaaDoorMax12
import Derived.Test.YthdpnbfjpbiieaaDoorMax20
import Derived.Test.YthdpnbfjpbiieaaDoorPlainK
namespace Go.Proofs.YthdpnbfjpbiieaaDoor.Plain
open Go.RowKit Go.Proofs.YthdpnbfjpbiieaaDoor.Ma Go.Proofs.YthdpnbfjpbiieaaDoorW.PrintWords Go.Proofs.YthdpnbfjpbiieaaDoorW.PrintLast

/-- The target at place j: what it may be. -/
def GoodT (cf : ByteArray) (j : Nat) (t : S41) : Prop :=
  (t.f0 = ⟨#[]⟩ ∨ ∃ d : Nat, d < 4 ∧ t.f0.data.toList = cf.data.toList ++ 45 :: [UInt8.ofNat (49 + d)]) ∧ (t.f1 = ⟨#[]⟩ ∨ t.f1 = (⟨#[116]⟩ : ByteArray) ++ ⟨#[UInt8.ofNat (48 + j)]⟩) ∧ 0 ≤ t.f2 ∧ t.f2 ≤ 100
def psum : List S41 → Int
  | [] => 0
  | t :: ts => t.f2 + psum ts
theorem psum_snoc : ∀ (l : List S41) (t : S41), psum (l ++ [t]) = psum l + t.f2
  | [], t => by simp [psum]
  | x :: xs, t => by rw [List.cons_append, psum, psum_snoc xs t, psum]; omega
def GoodL (cf : ByteArray) (l : List S41) : Prop := ∀ (j : Nat) (h : j < l.length), GoodT cf j l[j]
theorem GoodL.snoc {cf : ByteArray} {l : List S41} {t : S41} (h : GoodL cf l) (ht : GoodT cf l.length t) : GoodL cf (l ++ [t]) := by
  intro j hj
  rw [List.length_append] at hj
  by_cases e : j < l.length
  · rw [List.getElem_append_left e]; exact h j e
  · obtain rfl : j = l.length := by simp at hj; omega
    simpa using ht
theorem one_byte (v : Int) (h0 : 0 ≤ v) (h1 : v < 256) : strOfNums [v] = ⟨#[UInt8.ofNat v.toNat]⟩ := by
  obtain ⟨n, rfl⟩ := Int.eq_ofNat_of_zero_le h0
  rfl
theorem gen_j4 (k : Nat) (ns : List Int) (left n : Int) (i : Nat) (v : Int) (nm cf : ByteArray) (acc : List S41) (roll : Int) (r0 : ByteArray) (p : Int) (hi : i ≤ 100) (ha : acc.length ≤ 100) (h0 : 0 ≤ p) (h1 : p ≤ left) (h2 : left ≤ 100) :
    ∃ tag, (tag = ⟨#[]⟩ ∨ tag = (⟨#[116]⟩ : ByteArray) ++ ⟨#[UInt8.ofNat (48 + i)]⟩) ∧ damperlaw2_Route.j4 (k + 1) ns left n (i : Int) v nm cf acc roll r0 ⟨#[]⟩ p = damperlaw2_Route.l0 k ns (left - p) n ((i + 1 : Nat) : Int) nm cf (acc ++ [⟨r0, tag, p⟩]) roll := by
  rw [damperlaw2_Route.j4, w64_small (left - p) (by omega) (by omega), w64_small ((i : Int) + 1) (by omega) (by omega), w64_small (48 + (i : Int)) (by omega) (by omega), show (48 + (i : Int)) % 256 = 48 + (i : Int) by omega]
  by_cases hw : wi (wrap64 (Int.tdiv v 1212)) 3 = 0
  · rw [if_pos hw, Option.bind_some, one_byte _ (by omega) (by omega), show (48 + (i : Int)).toNat = 48 + i by omega, if_pos (by show 1 + 1 ≤ _; omega), if_pos (by omega)]
    exact ⟨_, .inr rfl, rfl⟩
  · rw [if_neg hw, if_pos (by omega)]
    exact ⟨_, .inl rfl, rfl⟩
theorem gen_j3 (k : Nat) (ns : List Int) (left n : Int) (i : Nat) (v : Int) (nm cf : ByteArray) (acc : List S41) (roll : Int) (p : Int) (hi : i ≤ 100) (ha : acc.length ≤ 100) (h0 : 0 ≤ p) (h1 : p ≤ left) (h2 : left ≤ 100) (hc : cf.size ≤ 3) :
    ∃ t, GoodT cf i t ∧ t.f2 = p ∧ damperlaw2_Route.j3 (k + 2) ns left n (i : Int) v nm cf acc roll ⟨#[]⟩ ⟨#[]⟩ p = damperlaw2_Route.l0 k ns (left - p) n ((i + 1 : Nat) : Int) nm cf (acc ++ [t]) roll := by
  rw [damperlaw2_Route.j3]
  by_cases hw : wi (wrap64 (Int.tdiv v 101)) 3 > 0
  · have w := wi_in (wrap64 (Int.tdiv v 303)) 4 (by decide) (by decide)
    generalize wi (wrap64 (Int.tdiv v 303)) 4 = d at w ⊢
    obtain ⟨d, rfl⟩ := Int.eq_ofNat_of_zero_le w.1
    rw [if_pos hw, if_pos (by omega), Option.bind_some, w64_small (49 + (d : Int)) (by omega) (by omega), show (49 + (d : Int)) % 256 = 49 + (d : Int) by omega, one_byte _ (by omega) (by omega), show (49 + (d : Int)).toNat = 49 + d by omega]
    have e : (cf ++ (⟨#[45]⟩ : ByteArray)).size = cf.size + 1 := by rw [ByteArray.size_append]; rfl
    have e2 : (⟨#[UInt8.ofNat (49 + d)]⟩ : ByteArray).size = 1 := rfl
    rw [e, e2, if_pos (by omega)]
    obtain ⟨tag, ht, e3⟩ := gen_j4 k ns left n i v nm cf acc roll (cf ++ ⟨#[45]⟩ ++ ⟨#[UInt8.ofNat (49 + d)]⟩) p hi ha h0 h1 h2
    exact ⟨⟨_, tag, p⟩, ⟨.inr ⟨d, by omega, by simp⟩, ht, h0, by show p ≤ 100; omega⟩, rfl, e3⟩
  · rw [if_neg hw]
    obtain ⟨tag, ht, e3⟩ := gen_j4 k ns left n i v nm cf acc roll ⟨#[]⟩ p hi ha h0 h1 h2
    exact ⟨⟨_, tag, p⟩, ⟨.inl rfl, ht, h0, by show p ≤ 100; omega⟩, rfl, e3⟩
theorem gen_l0 (ns : List Int) (hns : ns.length ≤ 9223372036854775807) (n : Nat) (nm cf : ByteArray) (roll : Int) (hn : n ≤ 6) (hc : cf.size ≤ 3) : ∀ (m i k : Nat) (left : Int) (acc : List S41), n - i = m → i ≤ n → 4 * m + 1 ≤ k → 0 ≤ left → left ≤ 100 → acc.length = i → GoodL cf acc → psum acc = 100 - left →
    ∃ l, damperlaw2_Route.l0 k ns left (n : Int) (i : Int) nm cf acc roll = some (nm, cf, l, roll) ∧ l.length = n ∧ GoodL cf l ∧ (0 < m → psum l = 100) ∧ (m = 0 → psum l = 100 - left)
  | m, i, k, left, acc, hm, hi, hk, h0, h1, ha, hg, hp => by
    obtain ⟨k, rfl⟩ : ∃ j, k = j + 1 := ⟨k - 1, by omega⟩
    rw [damperlaw2_Route.l0, w64_small ((i : Int) + 1) (by omega) (by omega)]
    by_cases h : i < n
    · have main : ∀ v, ∃ l, damperlaw2_Route.j2 k ns left (n : Int) (i : Int) v nm cf acc roll = some (nm, cf, l, roll) ∧ l.length = n ∧ GoodL cf l ∧ (0 < m → psum l = 100) ∧ (m = 0 → psum l = 100 - left) := by
        intro v
        obtain ⟨k, rfl⟩ : ∃ j, k = j + 3 := ⟨k - 3, by omega⟩
        rw [damperlaw2_Route.j2, w64_small (left + 1) (by omega) (by omega), w64_small ((n : Int) - 1) (by omega) (by omega), if_neg (by omega)]
        by_cases hl : (i : Int) = (n : Int) - 1
        · rw [if_pos hl]
          obtain ⟨t, ht, hf, e⟩ := gen_j3 k ns left n i v nm cf acc roll left (by omega) (by omega) h0 (Int.le_refl _) h1 hc
          rw [e]
          obtain ⟨l, e1, e2, e3, e4, e5⟩ := gen_l0 ns hns n nm cf roll hn hc (m - 1) (i + 1) k (left - left) (acc ++ [t]) (by omega) (by omega) (by omega) (by omega) (by omega) (by simp [ha]) (hg.snoc (ha ▸ ht)) (by rw [psum_snoc, hf]; omega)
          exact ⟨l, e1, e2, e3, fun _ => by have := e5 (by omega); omega, fun hh => by omega⟩
        · rw [if_neg hl]
          have w := wi_in v (left + 1) (by omega) (by omega)
          generalize wi v (left + 1) = p at w ⊢
          obtain ⟨t, ht, hf, e⟩ := gen_j3 k ns left n i v nm cf acc roll p (by omega) (by omega) w.1 (by omega) h1 hc
          rw [e]
          obtain ⟨l, e1, e2, e3, e4, e5⟩ := gen_l0 ns hns n nm cf roll hn hc (m - 1) (i + 1) k (left - p) (acc ++ [t]) (by omega) (by omega) (by omega) (by omega) (by omega) (by simp [ha]) (hg.snoc (ha ▸ ht)) (by rw [psum_snoc, hf]; omega)
          exact ⟨l, e1, e2, e3, fun _ => e4 (by omega), fun hh => by omega⟩
      rw [if_pos (by omega)]
      by_cases hb : (i : Int) + 1 < (ns.length : Int)
      · rw [if_pos hb, if_pos (by omega)]; exact main _
      · rw [if_neg hb]; exact main _
    · rw [if_neg (by omega)]
      exact ⟨acc, rfl, by omega, hg, fun hh => by omega, fun _ => hp⟩
/-- Any numbers make a route: its name, its configuration's, its targets, its time. -/
theorem gen_ok (k : Nat) (hk : 40 ≤ k) (a0 : Int) (ns : List Int) (hns : ns.length ≤ 9223372036854775807) (a2 : Int) : ∃ nm cf l roll, damperlaw2_Route.f k a0 ns a2 = some (nm, cf, l, roll) ∧ (shortL nm.data.toList 16 = true ∧ nm.size ≤ 5) ∧ ((∃ t, 0 ≤ t ∧ t < 3 ∧ cf = rdOf ByteArray.empty cnames t) ∧ shortL cf.data.toList 16 = true ∧ cf.size ≤ 3) ∧ (0 ≤ roll ∧ roll ≤ 60) ∧ (1 ≤ l.length ∧ l.length ≤ 6) ∧ GoodL cf l ∧ psum l = 100 := by
  have w1 := wi_in a0 3 (by decide) (by decide)
  have w2 := wi_in (wrap64 (Int.tdiv a0 3)) 3 (by decide) (by decide)
  have w3 := wi_in a2 61 (by decide) (by decide)
  have hn := fname_ok (wi a0 3) w1.1 w1.2
  have hc := cname_ok (wi (wrap64 (Int.tdiv a0 3)) 3) w2.1 w2.2
  have j : ∀ n : Nat, 1 ≤ n → n ≤ 6 → ∃ l, damperlaw2_Route.j0 k ns 100 (n : Int) (rdOf ByteArray.empty fnames (wi a0 3)) (rdOf ByteArray.empty cnames (wi (wrap64 (Int.tdiv a0 3)) 3)) (wi a2 61) = some (rdOf ByteArray.empty fnames (wi a0 3), rdOf ByteArray.empty cnames (wi (wrap64 (Int.tdiv a0 3)) 3), l, wi a2 61) ∧ l.length = n ∧ GoodL (rdOf ByteArray.empty cnames (wi (wrap64 (Int.tdiv a0 3)) 3)) l ∧ psum l = 100 := by
    intro n h1 h6
    obtain ⟨k, rfl⟩ : ∃ j, k = j + 1 := ⟨k - 1, by omega⟩
    rw [damperlaw2_Route.j0]
    obtain ⟨l, e1, e2, e3, e4, _⟩ := gen_l0 ns hns n (rdOf ByteArray.empty fnames (wi a0 3)) (rdOf ByteArray.empty cnames (wi (wrap64 (Int.tdiv a0 3)) 3)) (wi a2 61) h6 hc.2 n 0 k 100 [] (by omega) (by omega) (by omega) (by omega) (by omega) rfl (fun j h => absurd h (Nat.not_lt_zero _)) (by rfl)
    exact ⟨l, e1, e2, e3, e4 (by omega)⟩
  have fin : ∀ n : Nat, 1 ≤ n → n ≤ 6 → ∃ nm cf l roll, damperlaw2_Route.j0 k ns 100 (n : Int) (rdOf ByteArray.empty fnames (wi a0 3)) (rdOf ByteArray.empty cnames (wi (wrap64 (Int.tdiv a0 3)) 3)) (wi a2 61) = some (nm, cf, l, roll) ∧ (shortL nm.data.toList 16 = true ∧ nm.size ≤ 5) ∧ ((∃ t, 0 ≤ t ∧ t < 3 ∧ cf = rdOf ByteArray.empty cnames t) ∧ shortL cf.data.toList 16 = true ∧ cf.size ≤ 3) ∧ (0 ≤ roll ∧ roll ≤ 60) ∧ (1 ≤ l.length ∧ l.length ≤ 6) ∧ GoodL cf l ∧ psum l = 100 := by
    intro n h1 h6
    obtain ⟨l, e1, e2, e3, e4⟩ := j n h1 h6
    exact ⟨_, _, l, _, e1, hn, ⟨⟨_, w2.1, w2.2, rfl⟩, hc⟩, ⟨w3.1, by omega⟩, by omega, e3, e4⟩
  unfold damperlaw2_Route.f
  change ∃ nm cf l roll, (if 0 ≤ wi a0 3 then (if wi a0 3 < (3 : Int) then (if 0 ≤ wi (wrap64 (Int.tdiv a0 3)) 3 then (if wi (wrap64 (Int.tdiv a0 3)) 3 < (3 : Int) then (if (ns.length : Int) > 0 then (if 0 < (ns.length : Int) then damperlaw2_Route.j0 k ns 100 (wrap64 (1 + wi (rd ns 0) 6)) (rdOf ByteArray.empty fnames (wi a0 3)) (rdOf ByteArray.empty cnames (wi (wrap64 (Int.tdiv a0 3)) 3)) (wi a2 61) else none) else damperlaw2_Route.j0 k ns 100 1 (rdOf ByteArray.empty fnames (wi a0 3)) (rdOf ByteArray.empty cnames (wi (wrap64 (Int.tdiv a0 3)) 3)) (wi a2 61)) else none) else none) else none) else none) = _ ∧ _
  rw [if_pos w1.1, if_pos w1.2, if_pos w2.1, if_pos w2.2]
  by_cases hl : (ns.length : Int) > 0
  · have w4 := wi_in (rd ns 0) 6 (by decide) (by decide)
    rw [if_pos hl, if_pos hl]
    generalize wi (rd ns 0) 6 = q at w4 ⊢
    obtain ⟨q, rfl⟩ := Int.eq_ofNat_of_zero_le w4.1
    rw [w64_small _ (by omega) (by omega), show (1 + (q : Int)) = ((1 + q : Nat) : Int) by omega]
    exact fin (1 + q) (by omega) (by omega)
  · rw [if_neg hl]
    exact fin 1 (by omega) (by omega)

theorem dig6_one (d : Nat) (h : d < 4) : dig 6 (1 + d) = [UInt8.ofNat (49 + d)] := by
  rcases (show d = 0 ∨ d = 1 ∨ d = 2 ∨ d = 3 by omega) with rfl | rfl | rfl | rfl <;> decide
theorem nil_tl : (⟨#[]⟩ : ByteArray).toList = [] := by rw [Lib.toList_data]
theorem good_tgE {cf : ByteArray} (hc : shortL cf.data.toList 16 = true) {j : Nat} (hj : j < 10) {t : S41} (h : GoodT cf j t) : tgE t = 0 := by
  obtain ⟨h0, h1, h2⟩ := h
  have a : ¬ (t.f0.toList ≠ [] ∧ (splitV t.f0).2.2 = false) := by
    rintro ⟨b1, b2⟩
    rcases h0 with h0 | ⟨d, hd, h0⟩
    · rw [h0] at b1; exact b1 nil_tl
    · rw [splitV_parts t.f0 cf.data.toList (1 + d) ⟨hc, by omega, by omega, by rw [dig6_one d hd]; exact h0⟩] at b2
      cases b2
  have b : ¬ (t.f1.toList ≠ [] ∧ shortL t.f1.data.toList 8 = false) := by
    rintro ⟨b1, b2⟩
    rcases h1 with h1 | h1
    · rw [h1] at b1; exact b1 nil_tl
    · rw [h1] at b2
      revert b2
      have : ∀ j : Nat, j < 10 → ¬ (shortL ((⟨#[116]⟩ : ByteArray) ++ ⟨#[UInt8.ofNat (48 + j)]⟩).data.toList 8 = false) := by decide
      exact this j hj
  unfold tgE tgt
  rw [if_neg a, if_neg b, if_pos h2]
theorem good_size {cf : ByteArray} (hc : cf.size ≤ 3) {j : Nat} {t : S41} (h : GoodT cf j t) : t.f0.size ≤ 5 ∧ t.f1.size ≤ 2 := by
  obtain ⟨h0, h1, _⟩ := h
  constructor
  · rcases h0 with h0 | ⟨d, hd, h0⟩
    · rw [h0]; exact Nat.zero_le _
    · have : t.f0.size = t.f0.data.toList.length := rfl
      rw [this, h0]
      have : cf.size = cf.data.toList.length := rfl
      simp; omega
  · rcases h1 with h1 | h1
    · rw [h1]; exact Nat.zero_le _
    · rw [h1, ByteArray.size_append]; exact Nat.le_refl 2
theorem firstE_zero {l : List S41} (h : ∀ t ∈ l, tgE t = 0) : firstE l = 0 := by
  induction l with
  | nil => rfl
  | cons t ts ih => rw [firstE, if_pos (h t (by simp)), ih (fun x hx => h x (by simp [hx]))]
theorem GoodL.tg {cf : ByteArray} (hc : shortL cf.data.toList 16 = true) {l : List S41} (hl : l.length ≤ 6) (h : GoodL cf l) : ∀ t ∈ l, tgE t = 0 := by
  intro t ht
  obtain ⟨i, hi, rfl⟩ := List.getElem_of_mem ht
  exact good_tgE hc (by omega) (h i hi)
/-- No tag stands there twice. -/
def Once (l : List S41) : Prop := ∀ (i j : Nat) (hi : i < l.length) (hj : j < l.length), i < j → l[j].f1.toList ≠ [] → (l[i].f1.toList == l[j].f1.toList) = false
theorem GoodL.once {cf : ByteArray} {l : List S41} (hl : l.length ≤ 6) (h : GoodL cf l) : Once l := by
  intro i j hi hj hij hne
  obtain ⟨_, h1, _⟩ := h i hi
  obtain ⟨_, h2, _⟩ := h j hj
  generalize l[i].f1 = x at h1 ⊢
  generalize l[j].f1 = y at h2 hne ⊢
  rcases h2 with rfl | rfl
  · exact absurd nil_tl hne
  rcases h1 with rfl | rfl
  · rw [nil_tl, Lib.toList_data]; simp
  · have : ∀ i : Nat, i < 6 → ∀ j : Nat, j < 6 → i < j → (((⟨#[116]⟩ : ByteArray) ++ ⟨#[UInt8.ofNat (48 + i)]⟩).data.toList == ((⟨#[116]⟩ : ByteArray) ++ ⟨#[UInt8.ofNat (48 + j)]⟩).data.toList) = false := by decide
    rw [Lib.toList_data, Lib.toList_data]
    exact this i (by omega) j (by omega) hij
theorem all_sum : ∀ (ts pre : List S41) (s : Int) (c : Nat), Once (pre ++ ts) → (∀ t ∈ ts, -200 ≤ t.f2 ∧ t.f2 ≤ 200) → -(200 * (c : Int)) ≤ s → s ≤ 200 * (c : Int) → c + ts.length ≤ 100 → all_go pre ts s = if s + psum ts = 100 then 0 else 4
  | [], pre, s, _, _, _, _, _, _ => by rw [all_go, psum, Int.add_zero]
  | t :: ts, pre, s, c, ho, hb, h0, h1, hl => by
    have hb1 := hb t (by simp)
    rw [List.length_cons] at hl
    have hno : ¬ (t.f1.toList ≠ [] ∧ pre.any (fun y => y.f1.toList == t.f1.toList) = true) := by
      rintro ⟨a, b⟩
      obtain ⟨y, hy, he⟩ := List.any_eq_true.1 b
      obtain ⟨i, hi, rfl⟩ := List.getElem_of_mem hy
      have e1 : (pre ++ t :: ts)[i]'(by simp; omega) = pre[i] := List.getElem_append_left hi
      have e2 : (pre ++ t :: ts)[pre.length]'(by simp) = t := by simp
      have := ho i pre.length (by simp; omega) (by simp) hi (by rw [e2]; exact a)
      rw [e1, e2, he] at this
      cases this
    rw [all_go, if_neg hno, w64_small _ (by omega) (by omega), psum]
    rw [all_sum ts (pre ++ [t]) (s + t.f2) (c + 1) (by rw [List.append_assoc]; exact ho) (fun x hx => hb x (by simp [hx])) (by omega) (by omega) (by omega), show s + t.f2 + psum ts = s + (t.f2 + psum ts) by omega]
end Go.Proofs.YthdpnbfjpbiieaaDoor.Plain
