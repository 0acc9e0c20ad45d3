/- Plain laws of revisions' names: put together, and parted, as the document says. -/
import Derived.Test.YtckcimahclpdfaaDoorMax6
import Derived.Test.YtckcimahclpdfaaDoorMax7
import Derived.Test.YtckcimahclpdfaaDoorMax12
import Derived.Test.YtckcimahclpdfaaDoorPlain
import Derived.Test.YtckcimahclpdfaaDoorPlainM
namespace Go.Proofs.YtckcimahclpdfaaDoor.Plain
open Go.RowKit Go.Proofs.YtckcimahclpdfaaDoor.Ma Go.Proofs.YtckcimahclpdfaaDoorW.PrintWords Go.Proofs.YtckcimahclpdfaaDoorW.PrintLast

theorem dig_more : ∀ (j u : Nat), u < 10 ^ (j + 1) → ∀ i, j ≤ i → dig (i + 1) u = dig (j + 1) u := by
  intro j u hu i hi
  have a := dig_eq j u hu
  have b := dig_eq i u (Nat.lt_of_lt_of_le hu (Nat.pow_le_pow_right (by omega) (by omega)))
  rw [← a, ← b]
def isDig (b : UInt8) : Bool := decide (48 ≤ b.toNat) && decide (b.toNat ≤ 57)
def val : List UInt8 → Nat
  | [] => 0
  | c :: r => (c.toNat - 48) * 10 ^ r.length + val r
theorem val_snoc : ∀ (l : List UInt8) (c : UInt8), val (l ++ [c]) = val l * 10 + (c.toNat - 48)
  | [], c => by simp [val]
  | a :: l, c => by
    rw [List.cons_append, val, val, val_snoc l c, List.length_append, List.length_singleton, Nat.pow_succ, Nat.add_mul, Nat.mul_assoc]
    omega
theorem val_lt : ∀ (l : List UInt8), l.all isDig = true → val l < 10 ^ l.length
  | [], _ => by simp [val]
  | c :: r, h => by
    rw [List.all_cons, Bool.and_eq_true] at h
    have := val_lt r h.2
    have hc : c.toNat - 48 ≤ 9 := by have := h.1; simp [isDig] at this; omega
    rw [val, List.length_cons, Nat.pow_succ]
    have : (c.toNat - 48) * 10 ^ r.length ≤ 9 * 10 ^ r.length := Nat.mul_le_mul_right _ hc
    omega
theorem toNat_dig (d : Nat) (h : d < 10) : (UInt8.ofNat (48 + d)).toNat = 48 + d := by
  rw [UInt8.toNat_ofNat']; omega
theorem dig_spec : ∀ (k u : Nat), u < 10 ^ (k + 1) → (dig (k + 1) u).all isDig = true ∧ val (dig (k + 1) u) = u ∧ 0 < (dig (k + 1) u).length ∧ (1 ≤ u → ∀ h : 0 < (dig (k + 1) u).length, (dig (k + 1) u)[0].toNat ≠ 48)
  | k, u, hu => by
    rw [dig]
    by_cases h : u < 10
    · rw [if_pos h]
      have := toNat_dig u h
      refine ⟨by simp [isDig]; omega, by rw [val, val, this]; simp, by simp, fun h1 _ => by simp only [List.getElem_cons_zero]; omega⟩
    · rw [if_neg h]
      cases k with
      | zero => exact absurd hu (by omega)
      | succ k =>
        obtain ⟨a, b, c, d⟩ := dig_spec k (u / 10) (by rw [Nat.pow_succ] at hu; omega)
        have e := toNat_dig (u % 10) (by omega)
        refine ⟨by rw [List.all_append, a]; simp [isDig]; omega, by rw [val_snoc, b, e]; omega, by simp, fun _ h0 => ?_⟩
        rw [List.getElem_append_left c]
        exact d (by omega) c
theorem snoc_of {l : List UInt8} (h : 0 < l.length) : ∃ r c, l = r ++ [c] := ⟨l.dropLast, l.getLast (List.ne_nil_of_length_pos h), (List.dropLast_concat_getLast _).symm⟩
theorem val_dig : ∀ (n : Nat) (l : List UInt8) (k : Nat), l.length = n → l.all isDig = true → 0 < l.length → l.length ≤ k + 1 → (∀ h : 0 < l.length, 1 < l.length → l[0].toNat ≠ 48) → dig (k + 1) (val l) = l
  | n, l0, k, hn0, ha, hl, hk, h0 => by
    obtain ⟨l, c, rfl⟩ := snoc_of hl
    rw [List.all_append, Bool.and_eq_true] at ha
    have hc : 48 ≤ c.toNat ∧ c.toNat ≤ 57 := by have := ha.2; simpa [isDig] using this
    rw [val_snoc, dig]
    by_cases hn : l = []
    · subst hn
      have : val [] * 10 + (c.toNat - 48) < 10 := by simp [val]; omega
      rw [if_pos this]
      simp only [val, List.nil_append]
      rw [show 48 + (0 * 10 + (c.toNat - 48)) = c.toNat by omega]
      simp
    · have hp : 0 < l.length := List.length_pos_iff.2 hn
      have hz : (l[0]'hp).toNat ≠ 48 := by
        have := h0 (by simp) (by simp; omega)
        rw [List.getElem_append_left hp] at this
        exact this
      have hz2 : isDig (l[0]'hp) = true := List.all_eq_true.1 ha.1 _ (List.getElem_mem hp)
      have hv : 1 ≤ val l := by
        cases l with
        | nil => exact absurd rfl hn
        | cons a r =>
          have h1 : a.toNat ≠ 48 := hz
          have h2 : isDig a = true := hz2
          simp [isDig] at h2
          rw [val]
          have : 1 ≤ (a.toNat - 48) * 10 ^ r.length := Nat.mul_pos (by omega) (Nat.pow_pos (by omega))
          omega
      simp only [List.length_append, List.length_singleton] at hk
      obtain ⟨k, rfl⟩ : ∃ i, k = i + 1 := ⟨k - 1, by omega⟩
      rw [if_neg (by omega), show (val l * 10 + (c.toNat - 48)) / 10 = val l by omega, show (val l * 10 + (c.toNat - 48)) % 10 = c.toNat - 48 by omega,
        val_dig (n - 1) l k (by simp at hn0; omega) ha.1 hp (by omega) (fun _ _ => hz), show 48 + (c.toNat - 48) = c.toNat by omega]
      simp

/-! ### Atoi of digits -/
theorem pu_snoc : ∀ (l : List UInt8) (acc a : Nat) (c : UInt8), Lib.parseUint10 acc l = .ok a → a < 1000000000 → isDig c = true → Lib.parseUint10 acc (l ++ [c]) = .ok (a * 10 + (c.toNat - 48))
  | [], acc, a, c, h, ha, hc => by
    obtain rfl : acc = a := by simpa [Lib.parseUint10] using h
    have h2 : 48 ≤ c.toNat ∧ c.toNat ≤ 57 := by simpa [isDig] using hc
    rw [List.nil_append, Lib.parseUint10, if_pos h2, if_neg (by omega), if_neg (by omega), Lib.parseUint10]
  | b :: l, acc, a, c, h, ha, hc => by
    rw [Lib.parseUint10] at h
    by_cases h1 : 48 ≤ b.toNat ∧ b.toNat ≤ 57
    · rw [if_pos h1] at h
      by_cases h2 : 1844674407370955162 ≤ acc
      · rw [if_pos h2] at h; cases h
      · rw [if_neg h2] at h
        by_cases h3 : 18446744073709551616 ≤ acc * 10 + (b.toNat - 48)
        · rw [if_pos h3] at h; cases h
        · rw [if_neg h3] at h
          rw [List.cons_append, Lib.parseUint10, if_pos h1, if_neg h2, if_neg h3]
          exact pu_snoc l _ a c h ha hc
    · rw [if_neg h1] at h; cases h
theorem pu_val : ∀ (n : Nat) (l : List UInt8), l.length = n → n ≤ 9 → l.all isDig = true → Lib.parseUint10 0 l = .ok (val l)
  | 0, l, hn, _, _ => by
    have : l = [] := List.eq_nil_of_length_eq_zero hn
    rw [this]; rfl
  | n + 1, l0, hn, h9, ha => by
    obtain ⟨l, c, rfl⟩ := snoc_of (show 0 < l0.length by omega)
    rw [List.all_append, Bool.and_eq_true] at ha
    have hl : l.length = n := by simp at hn; omega
    have hv := val_lt l ha.1
    have hp : 10 ^ l.length ≤ 10 ^ 8 := Nat.pow_le_pow_right (by omega) (by omega)
    have hc : isDig c = true := by have := ha.2; simpa using this
    rw [pu_snoc l 0 (val l) c (pu_val n l hl (by omega) ha.1) (by omega) hc, val_snoc]
theorem atoi_val (l : List UInt8) (h0 : 0 < l.length) (h9 : l.length ≤ 9) (ha : l.all isDig = true) : Lib.atoiAll l = .ok (val l : Int) := by
  cases l with
  | nil => exact absurd h0 (by simp)
  | cons c r =>
    have hc : 48 ≤ c.toNat ∧ c.toNat ≤ 57 := by
      rw [List.all_cons, Bool.and_eq_true] at ha; simpa [isDig] using ha.1
    rw [Lib.atoiAll_plain c r (by omega) (by omega)]
    unfold Lib.parseMag
    rw [if_neg (by simp), pu_val _ (c :: r) rfl h9 ha]
    have hv := val_lt (c :: r) ha
    have hp : 10 ^ (c :: r).length ≤ 10 ^ 9 := Nat.pow_le_pow_right (by omega) h9
    simp only [Lib.signless]
    rw [if_neg (by omega)]

/-! ### How a text is parted -/
/-- l is c's name and g's digits. -/
def Parts (l c : List UInt8) (g : Nat) : Prop := shortL c 16 = true ∧ 1 ≤ g ∧ g ≤ 999999 ∧ l = c ++ 45 :: dig 6 g
theorem last_at (s : ByteArray) (c ds : List UInt8) (h : s.data.toList = c ++ 45 :: ds) (hd : ds.all isDig = true) : Lib.lastIndexByte s 45 = (c.length : Int) := by
  have hz : s.size = s.data.toList.length := rfl
  have hlen : s.data.toList.length = c.length + 1 + ds.length := by rw [h]; simp; omega
  have get : ∀ (j : Nat) (hj : j < s.data.toList.length), (s.data[j]!).toNat = (s.data.toList[j]'hj).toNat := by
    intro j hj
    have hj' : j < s.data.size := hj
    rw [getElem!_pos s.data j hj']; rfl
  have hc : (s.data.toList[c.length]'(by omega)) = 45 := by
    simp [h]
  have far : ∀ (j : Nat) (hj : j < s.data.toList.length), c.length < j → ((s.data.toList[j]'hj).toNat : Int) ≠ 45 := by
    intro j hj hlt
    have e : (s.data.toList[j]'hj) = ds[j - c.length - 1]'(by omega) := by
      simp only [h]
      rw [List.getElem_append_right (by omega), List.getElem_cons, dif_neg (by omega)]
    have := List.all_eq_true.1 hd _ (List.getElem_mem (show j - c.length - 1 < ds.length by omega))
    rw [e]
    simp [isDig] at this
    omega
  unfold Lib.lastIndexByte
  rcases Lib.lastIdx_spec s 45 s.size with ⟨_, h2⟩ | ⟨i, hi, e, h3, h4⟩
  · exact absurd (by rw [get _ (by omega), hc]; rfl) (h2 c.length (by omega))
  · rw [e]
    rcases Nat.lt_trichotomy i c.length with hlt | heq | hgt
    · exact absurd (by rw [get _ (by omega), hc]; rfl) (h4 c.length hlt (by omega))
    · rw [heq]
    · rw [get i (by omega)] at h3
      exact absurd h3 (far i (by omega) hgt)
theorem dig6 {g : Nat} (h : g ≤ 999999) : (dig 6 g).all isDig = true ∧ val (dig 6 g) = g ∧ 0 < (dig 6 g).length ∧ (1 ≤ g → ∀ h : 0 < (dig 6 g).length, (dig 6 g)[0].toNat ≠ 48) := dig_spec 5 g (by omega)
theorem splitV_parts (s : ByteArray) (c : List UInt8) (g : Nat) (h : Parts s.data.toList c g) : splitV s = (⟨c.toArray⟩, (g : Int), true) := by
  obtain ⟨h1, h2, h3, h4⟩ := h
  obtain ⟨d1, d2, d3, _⟩ := dig6 h3
  unfold splitV
  rw [last_at s c _ h4 d1, if_neg (by omega), show ((c.length : Nat) : Int).toNat = c.length from rfl]
  unfold splitL
  have e1 : s.data.toList.drop (c.length + 1) = dig 6 g := by rw [h4]; simp
  have e2 : s.data.toList.take c.length = c := by rw [h4]; simp
  rw [e1, e2, atoi_val _ d3 (by have := dig_len 6 g; omega) d1, d2]
  have e3 : revL c (g : Int) = s.data.toList := by
    unfold revL
    rw [if_pos ⟨h1, by omega, by omega⟩, h4]; rfl
  simp only []
  rw [if_pos e3]
theorem splitV_not (s : ByteArray) (h : ∀ c g, ¬ Parts s.data.toList c g) : splitV s = (⟨#[]⟩, 0, false) := by
  unfold splitV
  by_cases h1 : Lib.lastIndexByte s 45 < 0
  · rw [if_pos h1]
  rw [if_neg h1]
  obtain ⟨i, hi, e⟩ := last_bounds s h1
  rw [e]
  unfold splitL
  rcases Lib.atoiAll (s.data.toList.drop (((i : Nat) : Int).toNat + 1)) with v | _ | _
  · simp only []
    by_cases h2 : revL (s.data.toList.take ((i : Nat) : Int).toNat) v = s.data.toList
    · exfalso
      unfold revL at h2
      by_cases h3 : shortL (s.data.toList.take ((i : Nat) : Int).toNat) 16 = true ∧ 1 ≤ v ∧ v ≤ 999999
      · rw [if_pos h3] at h2
        exact h _ v.toNat ⟨h3.1, by omega, by omega, h2.symm⟩
      · rw [if_neg h3] at h2
        have hz : s.size = s.data.toList.length := rfl
        have h5 : s.data.toList.length = 0 := by rw [← h2]; rfl
        omega
    · rw [if_neg h2]
  · rfl
  · rfl

/-! ### How the document parts it -/
/-- What the document says where its loop ends. -/
def refE (l : List UInt8) (a n : Nat) : ByteArray × Int × Bool :=
  if a < 1 ∨ a = l.length ∨ (l[a - 1]?).map (·.toNat) ≠ some 45 ∨ (l[a]?).map (·.toNat) = some 48 ∨ shortL (l.take (a - 1)) 16 = false then (⟨#[]⟩, 0, false) else (⟨(l.take (a - 1)).toArray⟩, (n : Int), true)
theorem ref_j2 (s : ByteArray) (hs : s.size < 281474976710656) (a n k : Nat) (b : Bool) (ha : a ≤ s.data.toList.length) (ha1 : b = false → 1 ≤ a) :
    damperref1_Split.j2 (k + 1) s (a : Int) (n : Int) b = some (if b then (⟨#[]⟩, 0, false) else (⟨(s.data.toList.take (a - 1)).toArray⟩, (n : Int), true)) := by
  have hz : s.size = s.data.toList.length := rfl
  rw [damperref1_Split.j2]
  cases b with
  | true => rfl
  | false =>
    have h1 := ha1 rfl
    rw [if_neg (by decide), w64_small _ (by omega) (by omega), if_pos (by omega), if_pos (by omega), show ((a : Int) - 1).toNat = a - 1 by omega, take_ba]
    rfl
theorem ref_end (s : ByteArray) (hs : s.size < 281474976710656) (a n k : Nat) (ha : a ≤ s.data.toList.length) (hk : s.data.toList.length + 10 ≤ k) :
    damperref1_Split.j1 k s (a : Int) (n : Int) (10 ^ (s.data.toList.length - a) : Nat) false = some (refE s.data.toList a n) := by
  have hz : s.size = s.data.toList.length := rfl
  obtain ⟨k, rfl⟩ : ∃ i, k = i + 2 := ⟨k - 2, by omega⟩
  rw [damperref1_Split.j1, if_neg (by decide)]
  unfold refE
  by_cases h1 : a < 1
  · rw [if_pos (by omega), if_pos (.inl h1), ref_j2 s hs a n k true ha (by simp)]; rfl
  rw [if_neg (by omega)]
  by_cases h2 : a = s.data.toList.length
  · rw [if_pos (by omega), if_pos (.inr (.inl h2)), ref_j2 s hs a n k true ha (by simp)]; rfl
  rw [if_neg (by omega), w64_small _ (by omega) (by omega), if_pos (by omega), if_pos (by omega), show ((a : Int) - 1) = ((a - 1 : Nat) : Int) by omega, bt_list s (a - 1) (by omega), bt_list s a (by omega)]
  have g1 : s.data.toList[a - 1]? = some (s.data.toList[a - 1]'(by omega)) := List.getElem?_eq_getElem (by omega)
  have g2 : s.data.toList[a]? = some (s.data.toList[a]'(by omega)) := List.getElem?_eq_getElem (by omega)
  rw [g1, g2, Option.map_some, Option.map_some]
  generalize s.data.toList[a - 1]'(by omega : a - 1 < s.data.toList.length) = p
  generalize s.data.toList[a]'(by omega : a < s.data.toList.length) = q
  by_cases h3 : p.toNat = 45
  · rw [if_pos (by omega), if_pos (by omega), if_pos (by omega)]
    by_cases h4 : q.toNat = 48
    · rw [if_pos (by omega), if_pos (.inr (.inr (.inr (.inl (by rw [h4]))))), ref_j2 s hs a n k true ha (by simp)]; rfl
    · rw [if_neg (by omega), if_pos (by omega), show (((a - 1 : Nat) : Int)).toNat = a - 1 from rfl, rname_eq _ (by rw [ByteArray.size_extract]; omega) (k + 1) (by rw [take_ba]; simp; omega), Option.bind_some, take_ba]
      show damperref1_Split.j2 (k + 1) s (a : Int) (n : Int) (!(shortL (s.data.toList.take (a - 1)) 16)) = _
      rw [ref_j2 s hs a n k _ ha (fun _ => by omega)]
      cases h5 : shortL (s.data.toList.take (a - 1)) 16 with
      | true =>
        rw [if_neg (by decide), if_neg]
        rintro (h | h | h | h | h)
        · exact h1 h
        · exact h2 h
        · exact h (by rw [h3])
        · exact h4 (Option.some.inj h)
        · cases h
      | false => rw [if_pos (by decide), if_pos (.inr (.inr (.inr (.inr rfl))))]
  · rw [if_neg (by omega), if_pos (.inr (.inr (.inl (fun h => h3 (Option.some.inj h))))), ref_j2 s hs a n k true ha (by simp)]; rfl
/-- Where the loop ends: what was taken are digits, six at most; and no more could be taken. -/
def Stop (l : List UInt8) (a : Nat) : Prop := a ≤ l.length ∧ (l.drop a).all isDig = true ∧ l.length - a ≤ 6 ∧ (a = 0 ∨ (∀ h : a - 1 < l.length, isDig l[a - 1] = false) ∨ l.length - a = 6)
theorem ref_l0 (s : ByteArray) (hs : s.size < 281474976710656) : ∀ (m a : Nat), 6 - (s.data.toList.length - a) = m → a ≤ s.data.toList.length → (s.data.toList.drop a).all isDig = true → s.data.toList.length - a ≤ 6 →
    ∃ b, Stop s.data.toList b ∧ ∀ k, s.data.toList.length + 14 + 2 * m ≤ k → damperref1_Split.l0 k s (a : Int) (val (s.data.toList.drop a) : Nat) (10 ^ (s.data.toList.length - a) : Nat) = some (refE s.data.toList b (val (s.data.toList.drop b)))
  | m, a, hm, ha, hd, h6 => by
    have hz : s.size = s.data.toList.length := rfl
    -- the loop's own test
    have hstop : (a = 0 ∨ (∀ h : a - 1 < s.data.toList.length, isDig s.data.toList[a - 1] = false) ∨ s.data.toList.length - a = 6) →
        ∃ b, Stop s.data.toList b ∧ ∀ k, s.data.toList.length + 14 + 2 * m ≤ k → damperref1_Split.l0 k s (a : Int) (val (s.data.toList.drop a) : Nat) (10 ^ (s.data.toList.length - a) : Nat) = some (refE s.data.toList b (val (s.data.toList.drop b))) := by
      intro hst
      refine ⟨a, ⟨ha, hd, h6, hst⟩, fun k hk => ?_⟩
      obtain ⟨k, rfl⟩ : ∃ i, k = i + 1 := ⟨k - 1, by omega⟩
      rw [damperref1_Split.l0]
      by_cases h0 : a = 0
      · rw [if_neg (by omega)]; exact ref_end s hs a _ k ha (by omega)
      rw [if_pos (by omega), w64_small _ (by omega) (by omega), if_pos (by omega), if_pos (by omega), show ((a : Int) - 1) = ((a - 1 : Nat) : Int) by omega, bt_list s (a - 1) (by omega)]
      by_cases h48 : (((s.data.toList[a - 1]'(by omega)).toNat : Nat) : Int) ≥ 48
      · rw [if_pos h48]
        by_cases h57 : (((s.data.toList[a - 1]'(by omega)).toNat : Nat) : Int) ≤ 57
        · rw [if_pos h57]
          have e6 : s.data.toList.length - a = 6 := by
            rcases hst with h | h | h
            · exact absurd h h0
            · have := h (by omega)
              rw [isDig, decide_eq_true (by omega), decide_eq_true (by omega)] at this; cases this
            · exact h
          rw [e6, decide_eq_false (by decide)]
          have := ref_end s hs a (val (s.data.toList.drop a)) k ha (by omega)
          rw [e6] at this; exact this
        · rw [if_neg h57]; exact ref_end s hs a _ k ha (by omega)
      · rw [if_neg h48]; exact ref_end s hs a _ k ha (by omega)
    by_cases h0 : a = 0
    · exact hstop (.inl h0)
    by_cases h1 : isDig (s.data.toList[a - 1]'(by omega)) = true
    rotate_left
    · exact hstop (.inr (.inl (fun _ => by simpa using h1)))
    by_cases h2 : s.data.toList.length - a = 6
    · exact hstop (.inr (.inr h2))
    have hdr : s.data.toList.drop (a - 1) = (s.data.toList[a - 1]'(by omega)) :: s.data.toList.drop a := by
      have := List.drop_eq_getElem_cons (show a - 1 < s.data.toList.length by omega)
      rw [this, show a - 1 + 1 = a by omega]
    have hd' : (s.data.toList.drop (a - 1)).all isDig = true := by rw [hdr, List.all_cons, h1, hd]; rfl
    obtain ⟨b, hb, hk'⟩ := ref_l0 s hs (m - 1) (a - 1) (by omega) (by omega) hd' (by omega)
    refine ⟨b, hb, fun k hk => ?_⟩
    have hkk : s.data.toList.length + 14 + 2 * (m - 1) ≤ k - 2 := by clear h1 hdr hstop hk' hd hd'; omega
    obtain ⟨k, rfl⟩ : ∃ i, k = i + 2 := ⟨k - 2, by clear h1 hdr hstop hk' hd hd'; omega⟩
    have hc : 48 ≤ (s.data.toList[a - 1]'(by omega)).toNat ∧ (s.data.toList[a - 1]'(by omega)).toNat ≤ 57 := by simpa [isDig] using h1
    have hpow : 10 ^ (s.data.toList.length - a) ≤ 10 ^ 5 := Nat.pow_le_pow_right (by omega) (by omega)
    have hv := val_lt _ hd
    rw [List.length_drop] at hv
    have hv1 := val_lt _ hd'
    rw [List.length_drop] at hv1
    have hpow1 : 10 ^ (s.data.toList.length - (a - 1)) ≤ 10 ^ 6 := Nat.pow_le_pow_right (by omega) (by omega)
    have e10 : 10 ^ (s.data.toList.length - (a - 1)) = 10 ^ (s.data.toList.length - a) * 10 := by rw [show s.data.toList.length - (a - 1) = s.data.toList.length - a + 1 by omega, Nat.pow_succ]
    have ev : val (s.data.toList.drop (a - 1)) = ((s.data.toList[a - 1]'(by omega)).toNat - 48) * 10 ^ (s.data.toList.length - a) + val (s.data.toList.drop a) := by
      rw [hdr, val, List.length_drop]
    rw [damperref1_Split.l0, if_pos (by omega), w64_small _ (by omega) (by omega), if_pos (by omega), if_pos (by omega), show ((a : Int) - 1) = ((a - 1 : Nat) : Int) by omega, bt_list s (a - 1) (by omega), if_pos (by omega), if_pos (by omega),
      decide_eq_true (by omega), damperref1_Split.j1, if_pos rfl]
    rw [w64_small ((a : Int) - 1) (by omega) (by omega), if_pos (by omega), if_pos (by omega), show ((a : Int) - 1) = ((a - 1 : Nat) : Int) by omega, bt_list s (a - 1) (by omega)]
    obtain ⟨c, hcc⟩ : ∃ c, (s.data.toList[a - 1]'(by omega)).toNat = c := ⟨_, rfl⟩
    rw [hcc] at hc ev ⊢
    have em : (((c : Nat) : Int) - 48) % 256 = ((c - 48 : Nat) : Int) := by omega
    rw [em]
    obtain ⟨P, hP⟩ : ∃ P, 10 ^ (s.data.toList.length - a) = P := ⟨_, rfl⟩
    rw [hP] at hpow hv e10 ev ⊢
    have hcp : (c - 48) * P ≤ 9 * P := Nat.mul_le_mul_right _ (by omega)
    have e1 : ((P : Nat) : Int) * ((c - 48 : Nat) : Int) = (((c - 48) * P : Nat) : Int) := by rw [Nat.mul_comm, Int.natCast_mul]
    rw [e1, w64_small ((((c - 48) * P : Nat) : Int)) (by omega) (by omega), w64_small (((P : Nat) : Int) * 10) (by omega) (by omega), w64_small _ (by omega) (by omega)]
    have := hk' k hkk
    rw [ev, e10] at this
    rw [show ((val (s.data.toList.drop a) : Nat) : Int) + (((c - 48) * P : Nat) : Int) = (((c - 48) * P + val (s.data.toList.drop a) : Nat) : Int) by omega, show ((P : Nat) : Int) * 10 = ((P * 10 : Nat) : Int) by omega]
    exact this
theorem rsplit_stop (s : ByteArray) (hs : s.size < 281474976710656) : ∃ b, Stop s.data.toList b ∧ ∀ k, s.data.toList.length + 30 ≤ k → damperref1_Split.f k s = some (refE s.data.toList b (val (s.data.toList.drop b))) := by
  obtain ⟨b, hb, h⟩ := ref_l0 s hs 6 s.data.toList.length (by omega) (Nat.le_refl _) (by rw [List.drop_length]; rfl) (by omega)
  refine ⟨b, hb, fun k hk => ?_⟩
  have := h k (by omega)
  simp only [List.drop_length, Nat.sub_self, val] at this
  exact this
theorem refE_parts {l c : List UInt8} {g b : Nat} (h : Parts l c g) (hb : Stop l b) : refE l b (val (l.drop b)) = (⟨c.toArray⟩, (g : Int), true) := by
  obtain ⟨h1, h2, h3, h4⟩ := h
  obtain ⟨b1, b2, b3, b4⟩ := hb
  obtain ⟨d1, d2, d3, d4⟩ := dig6 h3
  have d5 := dig_len 6 g
  have hlen : l.length = c.length + 1 + (dig 6 g).length := by rw [h4]; simp; omega
  have hc : l[c.length]? = some 45 := by rw [h4]; simp
  have hge : c.length + 1 ≤ b := by
    apply Nat.le_of_not_lt
    intro hlt
    have : (45 : UInt8) ∈ l.drop b := by
      have e : (l.drop b)[c.length - b]? = some 45 := by rw [List.getElem?_drop, show b + (c.length - b) = c.length by omega, hc]
      exact List.mem_of_getElem? e
    have := List.all_eq_true.1 b2 _ this
    revert this; decide
  have heq : b = c.length + 1 := by
    rcases Nat.lt_or_ge (c.length + 1) b with hlt | hle
    · rcases b4 with h | h | h
      · omega
      · have e : l[b - 1]? = (dig 6 g)[b - 1 - c.length - 1]? := by
          rw [h4, List.getElem?_append_right (by omega), show b - 1 - c.length = (b - 1 - c.length - 1) + 1 by omega, List.getElem?_cons_succ]; congr 1
        rw [List.getElem?_eq_getElem (by omega), List.getElem?_eq_getElem (by omega)] at e
        have e2 := h (by omega)
        rw [Option.some.inj e] at e2
        have := List.all_eq_true.1 d1 _ (List.getElem_mem (show b - 1 - c.length - 1 < (dig 6 g).length by omega))
        rw [this] at e2; cases e2
      · omega
    · omega
  subst heq
  have e1 : l.drop (c.length + 1) = dig 6 g := by rw [h4]; simp
  have e2 : l.take (c.length + 1 - 1) = c := by rw [h4]; simp
  have e3 : l[c.length + 1]? = some ((dig 6 g)[0]'d3) := by
    rw [h4, List.getElem?_append_right (by omega), show c.length + 1 - c.length = 0 + 1 by omega, List.getElem?_cons_succ, List.getElem?_eq_getElem d3]
  unfold refE
  rw [e1, e2, d2, if_neg]
  rintro (h | h | h | h | h)
  · omega
  · omega
  · apply h; rw [show c.length + 1 - 1 = c.length by omega, hc]; rfl
  · rw [e3] at h; exact d4 h2 d3 (Option.some.inj h)
  · rw [h1] at h; cases h
theorem refE_not {l : List UInt8} {b : Nat} (h : ∀ c g, ¬ Parts l c g) (hb : Stop l b) : refE l b (val (l.drop b)) = (⟨#[]⟩, 0, false) := by
  obtain ⟨b1, b2, b3, b4⟩ := hb
  unfold refE
  by_cases hq : b < 1 ∨ b = l.length ∨ (l[b - 1]?).map (·.toNat) ≠ some 45 ∨ (l[b]?).map (·.toNat) = some 48 ∨ shortL (l.take (b - 1)) 16 = false
  · rw [if_pos hq]
  exfalso
  simp only [not_or, Decidable.not_not] at hq
  obtain ⟨q1, q2, q3, q4, q5⟩ := hq
  have hbl : b < l.length := by omega
  have hlen : (l.drop b).length = l.length - b := List.length_drop ..
  have h0 : ∀ h : 0 < (l.drop b).length, (l.drop b)[0].toNat ≠ 48 := by
    intro h e
    apply q4
    rw [List.getElem_drop] at e
    rw [List.getElem?_eq_getElem hbl]
    simpa using e
  have hv := val_dig _ (l.drop b) 5 rfl b2 (by omega) (by omega) (fun h _ => h0 h)
  have hlt := val_lt _ b2
  have hp : 10 ^ (l.drop b).length ≤ 10 ^ 6 := Nat.pow_le_pow_right (by omega) (by omega)
  have h45 : l[b - 1]'(by omega) = 45 := by
    rw [List.getElem?_eq_getElem (by omega), Option.map_some] at q3
    exact UInt8.toNat_inj.1 (Option.some.inj q3)
  refine h (l.take (b - 1)) (val (l.drop b)) ⟨by simpa using q5, ?_, by omega, ?_⟩
  · apply Nat.one_le_iff_ne_zero.2
    intro h1
    rw [h1] at hv
    have : (l.drop b)[0]'(by omega) = 48 := by simp [← hv, dig]
    exact h0 (by omega) (by rw [this]; rfl)
  · rw [hv]
    have e1 : l.drop (b - 1) = 45 :: l.drop b := by
      rw [List.drop_eq_getElem_cons (show b - 1 < l.length by omega), h45, show b - 1 + 1 = b by omega]
    rw [← e1, List.take_append_drop]
/-- BOTH PART ALIKE. -/
theorem rsplit_eq (s : ByteArray) (hs : s.size < 281474976710656) (k : Nat) (hk : s.data.toList.length + 30 ≤ k) : damperref1_Split.f k s = some (splitV s) := by
  obtain ⟨b, hb, h⟩ := rsplit_stop s hs
  rw [h k hk]
  by_cases hp : ∃ c g, Parts s.data.toList c g
  · obtain ⟨c, g, hp⟩ := hp
    rw [refE_parts hp hb, splitV_parts s c g hp]
  · have hn : ∀ c g, ¬ Parts s.data.toList c g := fun c g h => hp ⟨c, g, h⟩
    rw [refE_not hn hb, splitV_not s hn]
end Go.Proofs.YtckcimahclpdfaaDoor.Plain
