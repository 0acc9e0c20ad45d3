/- Plain laws, as far as one statement asks them. -/
import Derived.Test.YtalpoojepffldaaDoorMax0
import Derived.Test.YtalpoojepffldaaDoorPa
import Derived.Test.YtalpoojepffldaaDoorPb
import Derived.Test.YtalpoojepffldaaDoorPc
import Derived.Test.YtalpoojepffldaaDoorPd
import Derived.Test.YtalpoojepffldaaDoorPe
import Derived.Lib.IndexBytes
import Derived.Lib.ItoaLen
import Derived.Lib.PathFns
import Derived.Test.YtalpoojepffldaaDoorMka
import Derived.Test.YtalpoojepffldaaDoorRda
namespace Go.Proofs.YtalpoojepffldaaDoor.Plain
open Go.Proofs.YtalpoojepffldaaDoor.Ma Go.Proofs.YtalpoojepffldaaDoorW.PrintLast Go.Proofs.YtalpoojepffldaaDoorW.PrintWords Go.RowKit
set_option linter.unusedVariables false
set_option linter.unusedSimpArgs false

theorem name_eq (s : ByteArray) : label_Name.f s = some (shortL s.data.toList 16) := rfl
theorem tag_eq (s : ByteArray) : label_Tag.f s = some (shortL s.data.toList 8) := rfl

/-- The digits of a number, by fuel. -/
def dig : Nat → Nat → List UInt8
  | 0, _ => []
  | k + 1, u => if u < 10 then [UInt8.ofNat (48 + u)] else dig k (u / 10) ++ [UInt8.ofNat (48 + u % 10)]
theorem dig_eq : ∀ (k u : Nat), u < 10 ^ (k + 1) → Lib.decDigits u = dig (k + 1) u
  | k, u, h => by
    rw [Lib.decDigits, dig]; by_cases hu : u < 10
    · rw [dif_pos hu, if_pos hu]
    · rw [dif_neg hu, if_neg hu]
      cases k with
      | zero => exact absurd h (by omega)
      | succ j => rw [dig_eq j (u / 10) (by rw [Nat.pow_succ] at h; omega)]
theorem itoa_dig (g : Int) (h0 : 0 ≤ g) (h1 : g ≤ 999999) : Lib.itoa g = dig 6 g.toNat := by
  unfold Lib.itoa; rw [if_neg (by omega), dig_eq 5 g.toNat (by omega)]
theorem dig_len : ∀ (k u : Nat), (dig k u).length ≤ k
  | 0, _ => by simp [dig]
  | k + 1, u => by
    rw [dig]
    split
    · simp
    · have := dig_len k (u / 10); simp; omega

/-- A revision's name, in closed form. -/
def revL (l : List UInt8) (g : Int) : List UInt8 := if shortL l 16 = true ∧ 1 ≤ g ∧ g ≤ 999999 then l ++ 45 :: dig 6 g.toNat else []
theorem short_le {l : List UInt8} {n : Int} (h : shortL l n = true) : (l.length : Int) ≤ n := by
  simp [shortL] at h; omega
theorem ba_ext {a b : ByteArray} (h : a.data.toList = b.data.toList) : a = b := by
  cases a; cases b; congr 1; exact Array.toList_inj.1 h
theorem rev_eq (s : ByteArray) (g : Int) (k : Nat) : label_Rev.f (k + 1) s g = some ⟨(revL s.data.toList g).toArray⟩ := by
  unfold label_Rev.f; rw [name_eq, Option.bind_some]; unfold revL; by_cases h1 : shortL s.data.toList 16 = true
  · rw [if_pos h1]; by_cases h2 : g < 1
    · rw [if_pos h2, if_neg (by omega)]; rfl
    · rw [if_neg h2]; by_cases h3 : g > 999999
      · rw [decide_eq_true h3, if_neg (by omega)]; rfl
      · rw [decide_eq_false h3, if_pos ⟨h1, by omega, by omega⟩]; have hl := short_le h1; have hz : s.size = s.data.toList.length := rfl; have hi := dig_len 6 g.toNat; rw [label_Rev.j0, if_neg (by decide), if_pos (by omega)]; unfold strconv_Itoa_91.f; rw [if_pos (by omega), Option.bind_some, itoa_dig g (by omega) (by omega), if_pos]
        · congr 1
          apply ba_ext; simp
        · (have e : (s ++ (⟨#[45]⟩ : ByteArray)).size = s.size + 1 := by rw [ByteArray.size_append]; rfl); (have e2 : (⟨(dig 6 g.toNat).toArray⟩ : ByteArray).size = (dig 6 g.toNat).length := by simp [ByteArray.size]); rw [e, e2]; omega
  · rw [if_neg h1, if_neg (fun h => h1 h.1)]; rfl

/-- How a text is parted: at its last '-'. -/
def splitL (l : List UInt8) (i : Nat) : ByteArray × Int × Bool :=
  match Lib.atoiAll (l.drop (i + 1)) with
  | .ok v => if revL (l.take i) v = l then (⟨(l.take i).toArray⟩, v, true) else (⟨#[]⟩, 0, false)
  | _ => (⟨#[]⟩, 0, false)
theorem take_ba (s : ByteArray) (i : Nat) : (s.extract 0 i) = ⟨(s.data.toList.take i).toArray⟩ := by
  apply ba_ext; rw [Lib.extract_data]; simp
theorem splitAt_eq (s : ByteArray) (i : Nat) : splitAt s i = some (splitL s.data.toList i) := by
  unfold splitAt splitL; rw [Lib.extract_to_end]; rcases Lib.atoiAll (s.data.toList.drop (i + 1)) with v | _ | _
  · simp only []; rw [rev_eq _ _ 0, Option.bind_some, Lib.toList_data, Lib.toList_data, take_ba]; by_cases h : revL (s.data.toList.take i) v = s.data.toList
    · rw [if_pos (by simpa using h), if_pos h]
    · rw [if_neg (by simpa using h), if_neg h]
  · rfl
  · rfl
def splitV (s : ByteArray) : ByteArray × Int × Bool := if Lib.lastIndexByte s 45 < 0 then (⟨#[]⟩, 0, false) else splitL s.data.toList (Lib.lastIndexByte s 45).toNat
theorem split_eq (s : ByteArray) (h : s.size ≤ 140737488351232) : label_Split.f s = some (splitV s) := by
  unfold label_Split.f splitV; rw [if_pos h]; by_cases h2 : Lib.lastIndexByte s 45 < 0
  · rw [if_pos h2, if_pos h2]
  · rw [if_neg h2, if_neg h2, splitAt_eq]
theorem w64_small (z : Int) (h0 : -9223372036854775808 ≤ z) (h1 : z < 9223372036854775808) : wrap64 z = z := by unfold wrap64; omega
/-- What 'within' answers lies within. -/
theorem wi_in (a b : Int) (h0 : 0 < b) (h1 : b ≤ 9223372036854775807) : 0 ≤ wi a b ∧ wi a b < b := by
  have h := wi_bd (a := a) (b := b) (j := wi a b) rfl h0 h1; omega

theorem bt_list (s : ByteArray) (i : Nat) (h : i < s.data.toList.length) : bt s (i : Int) = ((s.data.toList[i]'h).toNat : Int) := by
  have h2 : ((i : Int).toNat) < s.size := h; unfold bt; rw [dif_pos h2]; rfl
theorem rsign_eq (k : Nat) (b : UInt8) : damperref1_sign.f (k + 1) ((b.toNat : Nat) : Int) = some (isSign b) := by
  unfold damperref1_sign.f; rw [damperref1_sign.j0]; unfold isSign; generalize b.toNat = n
  have e : (((n : Nat) : Int) == 45) = decide (n = 45) := by
    by_cases h : n = 45
    · subst h; rfl
    · rw [decide_eq_false h]; exact beq_eq_false_iff_ne.2 (by omega)
  rw [e]
  by_cases h1 : 97 ≤ n <;> by_cases h2 : n ≤ 122 <;> by_cases h3 : 48 ≤ n <;> by_cases h4 : n ≤ 57 <;>
    simp [show (((n : Nat) : Int) ≥ 97) = (97 ≤ n) from propext (by omega), show (((n : Nat) : Int) ≤ 122) = (n ≤ 122) from propext (by omega), show (((n : Nat) : Int) ≥ 48) = (48 ≤ n) from propext (by omega), show (((n : Nat) : Int) ≤ 57) = (n ≤ 57) from propext (by omega), h1, h2, h3, h4] <;> omega
theorem rname_l0 (s : ByteArray) (hs : s.size < 4611686018427387904) : ∀ (m i k : Nat), i ≤ s.data.toList.length → s.data.toList.length - i = m → m + 2 ≤ k →
    damperref1_Name.l0 k s (i : Int) = some ((s.data.toList.drop i).all isSign)
  | m, i, k, hi, hm, hk => by
    obtain ⟨k, rfl⟩ : ∃ j, k = j + 1 := ⟨k - 1, by omega⟩; have hz : s.size = s.data.toList.length := rfl; rw [damperref1_Name.l0]; by_cases h : i < s.data.toList.length
    · rw [if_pos (by omega), if_pos (by omega), bt_list s i h]; obtain ⟨k, rfl⟩ : ∃ j, k = j + 1 := ⟨k - 1, by omega⟩; rw [rsign_eq, Option.bind_some, w64_small _ (by omega) (by omega), List.drop_eq_getElem_cons h, List.all_cons]; by_cases hb : isSign s.data.toList[i] = true
      · rw [if_pos hb, hb, Bool.true_and]; exact rname_l0 s hs (m - 1) (i + 1) (k + 1) (by omega) (by omega) (by omega)
      · rw [if_neg hb, (by simpa using hb : isSign s.data.toList[i] = false), Bool.false_and]
    · rw [if_neg (by omega), List.drop_of_length_le (by omega)]; rfl
theorem rname_eq (s : ByteArray) (hs : s.size < 4611686018427387904) (k : Nat) (hk : s.data.toList.length + 4 ≤ k) : damperref1_Name.f k s = some (shortL s.data.toList 16) := by
  obtain ⟨k, rfl⟩ : ∃ j, k = j + 2 := ⟨k - 2, by omega⟩; have hz : s.size = s.data.toList.length := rfl
  have hj : ∀ b, damperref1_Name.j1 (k + 1) s b = some (!b && s.data.toList.all isSign) := by
    intro b; rw [damperref1_Name.j1]; cases b
    · rw [if_neg (by decide), show (0 : Int) = ((0 : Nat) : Int) from rfl, rname_l0 s hs s.data.toList.length 0 k (by omega) (by omega) (by omega)]; rfl
    · rw [if_pos rfl]; rfl
  unfold damperref1_Name.f; rw [damperref1_Name.j0]; generalize hl : s.data.toList = l at *; by_cases h0 : (s.size : Int) < 1
  · rw [if_pos h0, hj]; have : l = [] := List.eq_nil_of_length_eq_zero (by omega); rw [this]; rfl
  rw [if_neg h0]; by_cases h1 : (s.size : Int) > 16
  · rw [if_pos h1, hj]; unfold shortL; rw [decide_eq_false (show ¬ ((l.length : Int) ≤ 16) by omega)]; simp
  rw [if_neg h1, if_pos (by omega)]; have hlen : 0 < l.length := by omega
  have b0 : bt s 0 = ((l[0]'hlen).toNat : Int) := by
    have := bt_list s 0 (by rw [hl]; exact hlen)
    simpa [hl] using this
  have bL : bt s ((s.size : Int) - 1) = ((l[l.length - 1]'(by omega)).toNat : Int) := by
    have := bt_list s (l.length - 1) (by rw [hl]; omega); rw [show ((s.size : Int) - 1) = ((l.length - 1 : Nat) : Int) by omega]
    simpa [hl] using this
  (have hh : l.head? = some (l[0]'hlen) := by rw [List.head?_eq_getElem?, List.getElem?_eq_getElem hlen]); (have hg : l.getLast? = some (l[l.length - 1]'(by omega)) := by rw [List.getLast?_eq_getElem?, List.getElem?_eq_getElem (by omega)]); rw [w64_small _ (by omega) (by omega), b0, bL]; unfold shortL; rw [hh, hg]; generalize l[0]'hlen = c; generalize l[l.length - 1]'(by omega : l.length - 1 < l.length) = d; have a0 : decide ((l.length : Int) ≤ 16) = true := decide_eq_true (by omega); rw [a0]; by_cases h2 : ((c.toNat : Nat) : Int) < 97
  · rw [if_pos h2, hj]; (have : isLetter c = false := by simp [isLetter]; omega); simp [this]
  rw [if_neg h2]; by_cases h3 : ((c.toNat : Nat) : Int) > 122
  · rw [if_pos h3, hj]; (have : isLetter c = false := by simp [isLetter]; omega); simp [this]
  (have : isLetter c = true := by simp [isLetter]; omega); rw [if_neg h3, if_pos (by omega), if_pos (by omega), hj]
  have e4 : (((d.toNat : Nat) : Int) == 45) = (some d == some 45) := by
    have : (d = 45) ↔ ((d.toNat : Int) = 45) := ⟨fun e => by subst e; rfl, fun e => UInt8.toNat_inj.1 (by show d.toNat = 45; omega)⟩; by_cases hb : d = 45
    · subst hb; rfl
    · rw [show ((some d == some (45 : UInt8)) : Bool) = false from beq_eq_false_iff_ne.2 (fun e => hb (Option.some.inj e))]; exact beq_eq_false_iff_ne.2 (mt this.2 hb)
  rw [e4]; simp [this, Bool.and_comm]
def isDig (b : UInt8) : Bool := decide (48 ≤ b.toNat) && decide (b.toNat ≤ 57)
def val : List UInt8 → Nat
  | [] => 0
  | c :: r => (c.toNat - 48) * 10 ^ r.length + val r
theorem val_snoc : ∀ (l : List UInt8) (c : UInt8), val (l ++ [c]) = val l * 10 + (c.toNat - 48)
  | [], c => by simp [val]
  | a :: l, c => by
    rw [List.cons_append, val, val, val_snoc l c, List.length_append, List.length_singleton, Nat.pow_succ, Nat.add_mul, Nat.mul_assoc]; omega
theorem val_lt : ∀ (l : List UInt8), l.all isDig = true → val l < 10 ^ l.length
  | [], _ => by simp [val]
  | c :: r, h => by
    rw [List.all_cons, Bool.and_eq_true] at h; have := val_lt r h.2; (have hc : c.toNat - 48 ≤ 9 := by have := h.1; simp [isDig] at this; omega); rw [val, List.length_cons, Nat.pow_succ]; have : (c.toNat - 48) * 10 ^ r.length ≤ 9 * 10 ^ r.length := Nat.mul_le_mul_right _ hc; omega
theorem toNat_dig (d : Nat) (h : d < 10) : (UInt8.ofNat (48 + d)).toNat = 48 + d := by
  rw [UInt8.toNat_ofNat']; omega
theorem dig_spec : ∀ (k u : Nat), u < 10 ^ (k + 1) → (dig (k + 1) u).all isDig = true ∧ val (dig (k + 1) u) = u ∧ 0 < (dig (k + 1) u).length ∧ (1 ≤ u → ∀ h : 0 < (dig (k + 1) u).length, (dig (k + 1) u)[0].toNat ≠ 48)
  | k, u, hu => by
    rw [dig]; by_cases h : u < 10
    · rw [if_pos h]; have := toNat_dig u h; refine ⟨by simp [isDig]; omega, by rw [val, val, this]; simp, by simp, fun h1 _ => by simp only [List.getElem_cons_zero]; omega⟩
    · rw [if_neg h]
      cases k with
      | zero => exact absurd hu (by omega)
      | succ k =>
        obtain ⟨a, b, c, d⟩ := dig_spec k (u / 10) (by rw [Nat.pow_succ] at hu; omega); have e := toNat_dig (u % 10) (by omega); refine ⟨by rw [List.all_append, a]; simp [isDig]; omega, by rw [val_snoc, b, e]; omega, by simp, fun _ h0 => ?_⟩; rw [List.getElem_append_left c]; exact d (by omega) c
theorem snoc_of {l : List UInt8} (h : 0 < l.length) : ∃ r c, l = r ++ [c] := ⟨l.dropLast, l.getLast (List.ne_nil_of_length_pos h), (List.dropLast_concat_getLast _).symm⟩
theorem pu_snoc : ∀ (l : List UInt8) (acc a : Nat) (c : UInt8), Lib.parseUint10 acc l = .ok a → a < 1000000000 → isDig c = true → Lib.parseUint10 acc (l ++ [c]) = .ok (a * 10 + (c.toNat - 48))
  | [], acc, a, c, h, ha, hc => by
    (obtain rfl : acc = a := by simpa [Lib.parseUint10] using h); (have h2 : 48 ≤ c.toNat ∧ c.toNat ≤ 57 := by simpa [isDig] using hc); rw [List.nil_append, Lib.parseUint10, if_pos h2, if_neg (by omega), if_neg (by omega), Lib.parseUint10]
  | b :: l, acc, a, c, h, ha, hc => by
    rw [Lib.parseUint10] at h; by_cases h1 : 48 ≤ b.toNat ∧ b.toNat ≤ 57
    · rw [if_pos h1] at h; by_cases h2 : 1844674407370955162 ≤ acc
      · rw [if_pos h2] at h; cases h
      · rw [if_neg h2] at h; by_cases h3 : 18446744073709551616 ≤ acc * 10 + (b.toNat - 48)
        · rw [if_pos h3] at h; cases h
        · rw [if_neg h3] at h; rw [List.cons_append, Lib.parseUint10, if_pos h1, if_neg h2, if_neg h3]; exact pu_snoc l _ a c h ha hc
    · rw [if_neg h1] at h; cases h
theorem pu_val : ∀ (n : Nat) (l : List UInt8), l.length = n → n ≤ 9 → l.all isDig = true → Lib.parseUint10 0 l = .ok (val l)
  | 0, l, hn, _, _ => by
    have : l = [] := List.eq_nil_of_length_eq_zero hn; rw [this]; rfl
  | n + 1, l0, hn, h9, ha => by
    obtain ⟨l, c, rfl⟩ := snoc_of (show 0 < l0.length by omega); rw [List.all_append, Bool.and_eq_true] at ha; (have hl : l.length = n := by simp at hn; omega); have hv := val_lt l ha.1; have hp : 10 ^ l.length ≤ 10 ^ 8 := Nat.pow_le_pow_right (by omega) (by omega); (have hc : isDig c = true := by have := ha.2; simpa using this); rw [pu_snoc l 0 (val l) c (pu_val n l hl (by omega) ha.1) (by omega) hc, val_snoc]
theorem atoi_val (l : List UInt8) (h0 : 0 < l.length) (h9 : l.length ≤ 9) (ha : l.all isDig = true) : Lib.atoiAll l = .ok (val l : Int) := by
  cases l with
  | nil => exact absurd h0 (by simp)
  | cons c r =>
    have hc : 48 ≤ c.toNat ∧ c.toNat ≤ 57 := by
      rw [List.all_cons, Bool.and_eq_true] at ha; simpa [isDig] using ha.1
    rw [Lib.atoiAll_plain c r (by omega) (by omega)]; unfold Lib.parseMag; rw [if_neg (by simp), pu_val _ (c :: r) rfl h9 ha]; have hv := val_lt (c :: r) ha; have hp : 10 ^ (c :: r).length ≤ 10 ^ 9 := Nat.pow_le_pow_right (by omega) h9; simp only [Lib.signless]; rw [if_neg (by omega)]

/-! ### How a text is parted -/
/-- l is c's name and g's digits. -/
def Parts (l c : List UInt8) (g : Nat) : Prop := shortL c 16 = true ∧ 1 ≤ g ∧ g ≤ 999999 ∧ l = c ++ 45 :: dig 6 g
theorem last_at (s : ByteArray) (c ds : List UInt8) (h : s.data.toList = c ++ 45 :: ds) (hd : ds.all isDig = true) : Lib.lastIndexByte s 45 = (c.length : Int) := by
  have hz : s.size = s.data.toList.length := rfl; have hlen : s.data.toList.length = c.length + 1 + ds.length := by rw [h]; simp; omega
  have get : ∀ (j : Nat) (hj : j < s.data.toList.length), (s.data[j]!).toNat = (s.data.toList[j]'hj).toNat := by
    intro j hj; have hj' : j < s.data.size := hj; rw [getElem!_pos s.data j hj']; rfl
  have hc : (s.data.toList[c.length]'(by omega)) = 45 := by
    simp [h]
  have far : ∀ (j : Nat) (hj : j < s.data.toList.length), c.length < j → ((s.data.toList[j]'hj).toNat : Int) ≠ 45 := by
    intro j hj hlt
    have e : (s.data.toList[j]'hj) = ds[j - c.length - 1]'(by omega) := by
      simp only [h]; rw [List.getElem_append_right (by omega), List.getElem_cons, dif_neg (by omega)]
    have := List.all_eq_true.1 hd _ (List.getElem_mem (show j - c.length - 1 < ds.length by omega)); rw [e]; simp [isDig] at this; omega
  unfold Lib.lastIndexByte; rcases Lib.lastIdx_spec s 45 s.size with ⟨_, h2⟩ | ⟨i, hi, e, h3, h4⟩
  · exact absurd (by rw [get _ (by omega), hc]; rfl) (h2 c.length (by omega))
  · rw [e]; rcases Nat.lt_trichotomy i c.length with hlt | heq | hgt
    · exact absurd (by rw [get _ (by omega), hc]; rfl) (h4 c.length hlt (by omega))
    · rw [heq]
    · rw [get i (by omega)] at h3; exact absurd h3 (far i (by omega) hgt)
theorem dig6 {g : Nat} (h : g ≤ 999999) : (dig 6 g).all isDig = true ∧ val (dig 6 g) = g ∧ 0 < (dig 6 g).length ∧ (1 ≤ g → ∀ h : 0 < (dig 6 g).length, (dig 6 g)[0].toNat ≠ 48) := dig_spec 5 g (by omega)
theorem splitV_parts (s : ByteArray) (c : List UInt8) (g : Nat) (h : Parts s.data.toList c g) : splitV s = (⟨c.toArray⟩, (g : Int), true) := by
  obtain ⟨h1, h2, h3, h4⟩ := h; obtain ⟨d1, d2, d3, _⟩ := dig6 h3; unfold splitV; rw [last_at s c _ h4 d1, if_neg (by omega), show ((c.length : Nat) : Int).toNat = c.length from rfl]; unfold splitL; (have e1 : s.data.toList.drop (c.length + 1) = dig 6 g := by rw [h4]; simp); (have e2 : s.data.toList.take c.length = c := by rw [h4]; simp); rw [e1, e2, atoi_val _ d3 (by have := dig_len 6 g; omega) d1, d2]
  have e3 : revL c (g : Int) = s.data.toList := by
    unfold revL; rw [if_pos ⟨h1, by omega, by omega⟩, h4]; rfl
  simp only []; rw [if_pos e3]
theorem has_eq (a b n : Int) : spec_span_has.f a b n = some (decide (a ≤ n) && decide (n ≤ b)) := by
  unfold spec_span_has.f; by_cases h : n ≥ a
  · rw [if_pos h, decide_eq_true (show a ≤ n from h), Bool.true_and]
  · rw [if_neg h, decide_eq_false (show ¬ a ≤ n from h), Bool.false_and]
def cfgOk (img conc mn mx gr : Int) : Bool := (decide (0 ≤ img) && decide (img ≤ 255)) && ((decide (1 ≤ conc) && decide (conc ≤ 8)) && ((decide (1 ≤ mx) && decide (mx ≤ 10)) && ((decide (0 ≤ mn) && decide (mn ≤ mx)) && (decide (0 ≤ gr) && decide (gr ≤ 30)))))
/-- What is wrong with a configuration. -/
def cfgE (l : List UInt8) (img conc mn mx gr : Int) : Int := if shortL l 16 = true then (if cfgOk img conc mn mx gr = true then 0 else 2) else 1
theorem cfg_eq (k : Nat) (nm : ByteArray) (img conc mn mx gr : Int) : spec_Config.f (k + 1) nm img conc mn mx gr = some (cfgE nm.data.toList img conc mn mx gr) := by
  unfold spec_Config.f cfgE cfgOk; simp only [name_eq, has_eq, Option.bind_some]; generalize (decide (0 ≤ img) && decide (img ≤ 255)) = b1; generalize (decide (1 ≤ conc) && decide (conc ≤ 8)) = b2; generalize (decide (1 ≤ mx) && decide (mx ≤ 10)) = b3; generalize (decide (0 ≤ mn) && decide (mn ≤ mx)) = b4; generalize (decide (0 ≤ gr) && decide (gr ≤ 30)) = b5; (have j : ∀ b, spec_Config.j0 (k + 1) b = some (if b = true then 2 else 0) := by intro b; cases b <;> rfl); simp only [j]; cases shortL nm.data.toList 16 <;> cases b1 <;> cases b2 <;> cases b3 <;> cases b4 <;> cases b5 <;> rfl
theorem cfgOk_yes {img conc mn mx gr : Int} (h : 0 ≤ img ∧ img ≤ 255 ∧ 1 ≤ conc ∧ conc ≤ 8 ∧ 1 ≤ mx ∧ mx ≤ 10 ∧ 0 ≤ mn ∧ mn ≤ mx ∧ 0 ≤ gr ∧ gr ≤ 30) : cfgOk img conc mn mx gr = true := by
  simp only [cfgOk, Bool.and_eq_true, decide_eq_true_eq]; omega
/-- What is wrong with one target. -/
def tgE (t : S39) : Int := tgt t.f0 t.f1 t.f2 (splitV t.f0).2.2 (shortL t.f1.data.toList 8)
theorem target_eq (t : S39) (h : t.f0.size ≤ 140737488351232) : spec_target.f t.f0 t.f1 t.f2 = some (tgE t) := by
  unfold spec_target.f; rw [split_eq _ h, Option.bind_some, tag_eq, Option.bind_some]; rfl
/-- The first that is wrong. -/
def firstE : List S39 → Int
  | [] => 0
  | t :: ts => if tgE t = 0 then firstE ts else tgE t
/-- What is wrong with a route. -/
def routeE (n c : ByteArray) (l : List S39) (roll : Int) : Int :=
  if (shortL n.data.toList 16 && shortL c.data.toList 16) = true then (if 0 ≤ roll ∧ roll ≤ 60 then (if 1 ≤ l.length ∧ l.length ≤ 6 then (if firstE l = 0 then all_go [] l 0 else firstE l) else 3) else 2) else 1
theorem rd_at (l : List S39) (i : Nat) (h : i < l.length) : rd_T39 l (i : Int) = l[i] := by
  show l.getD i z39 = l[i]; rw [List.getD_eq_getElem?_getD, List.getElem?_eq_getElem h]; rfl
theorem route_l0 (l : List S39) (n c : ByteArray) (roll : Int) (hl : l.length ≤ 6) (hs : ∀ t ∈ l, t.f0.size ≤ 140737488351232) : ∀ (m i k : Nat), l.length - i = m → i ≤ l.length → m + 1 ≤ k →
    spec_Route.l0 k l (l.length : Int) (i : Int) n c l roll = some (if firstE (l.drop i) = 0 then all_go [] l 0 else firstE (l.drop i))
  | m, i, k, hm, hi, hk => by
    obtain ⟨k, rfl⟩ : ∃ j, k = j + 1 := ⟨k - 1, by omega⟩; rw [spec_Route.l0]; by_cases h : i < l.length
    · rw [if_pos (by omega), if_pos (by omega), if_pos (by omega), rd_at l i h, target_eq _ (hs _ (List.getElem_mem h)), Option.bind_some, w64_small _ (by omega) (by omega), List.drop_eq_getElem_cons h, firstE]; by_cases h0 : tgE l[i] = 0
      · rw [if_pos h0, if_pos h0]; exact route_l0 l n c roll hl hs (m - 1) (i + 1) k (by omega) (by omega) (by omega)
      · rw [if_neg h0, if_neg h0, if_neg h0]
    · rw [if_neg (by omega), List.drop_of_length_le (by omega)]; rfl
theorem route_eq (k : Nat) (hk : 10 ≤ k) (n c : ByteArray) (l : List S39) (roll : Int) (hs : ∀ t ∈ l, t.f0.size ≤ 140737488351232) : spec_Route.f k n c l roll = some (routeE n c l roll) := by
  obtain ⟨k, rfl⟩ : ∃ j, k = j + 1 := ⟨k - 1, by omega⟩
  have j : ∀ b, spec_Route.j0 (k + 1) b n c l roll = some (if b = true then 1 else (if 0 ≤ roll ∧ roll ≤ 60 then (if 1 ≤ l.length ∧ l.length ≤ 6 then (if firstE l = 0 then all_go [] l 0 else firstE l) else 3) else 2)) := by
    intro b; cases b
    · rw [spec_Route.j0, if_neg (by decide), if_neg (by decide), has_eq, Option.bind_some]; by_cases h1 : 0 ≤ roll ∧ roll ≤ 60
      · rw [if_pos h1, decide_eq_true h1.1, decide_eq_true h1.2, if_pos (by rfl), has_eq, Option.bind_some]; by_cases h2 : 1 ≤ l.length ∧ l.length ≤ 6
        · rw [if_pos h2, decide_eq_true (by omega), decide_eq_true (by omega), if_pos (by rfl)]; have := route_l0 l n c roll h2.2 hs l.length 0 k (by omega) (by omega) (by omega)
          rwa [List.drop_zero] at this
        · rw [if_neg h2, if_neg]; simp only [Bool.and_eq_true, decide_eq_true_eq]; omega
      · rw [if_neg h1, if_neg]; simp only [Bool.and_eq_true, decide_eq_true_eq]; exact h1
    · rw [spec_Route.j0, if_pos rfl]; rfl
  unfold spec_Route.f routeE; simp only [name_eq, Option.bind_some, j]; cases shortL n.data.toList 16 <;> cases shortL c.data.toList 16 <;> rfl

/-- The names of configurations that the statements draw from. -/
def cnames : List ByteArray := [(⟨#[119, 101, 98]⟩ : ByteArray), (⟨#[97, 112, 105]⟩ : ByteArray), (⟨#[97, 45, 98]⟩ : ByteArray)]
def fnames : List ByteArray := [(⟨#[102, 114, 111, 110, 116]⟩ : ByteArray), (⟨#[98, 97, 99, 107]⟩ : ByteArray), (⟨#[114, 45, 49]⟩ : ByteArray)]
theorem three {P : Int → Prop} (h0 : P 0) (h1 : P 1) (h2 : P 2) : ∀ t : Int, 0 ≤ t → t < 3 → P t := by
  intro t a b; rcases (show t = 0 ∨ t = 1 ∨ t = 2 by omega) with rfl | rfl | rfl
  · exact h0
  · exact h1
  · exact h2
theorem cname_ok : ∀ t : Int, 0 ≤ t → t < 3 → shortL (rdOf ByteArray.empty cnames t).data.toList 16 = true ∧ (rdOf ByteArray.empty cnames t).size ≤ 3 :=
  three (by decide) (by decide) (by decide)
theorem fname_ok : ∀ t : Int, 0 ≤ t → t < 3 → shortL (rdOf ByteArray.empty fnames t).data.toList 16 = true ∧ (rdOf ByteArray.empty fnames t).size ≤ 5 :=
  three (by decide) (by decide) (by decide)
/-- Any numbers make a configuration that may be. -/
theorem config_ok (nm : ByteArray) (img conc mn mx gr name : Int) : ∃ n i c m x g, damperlaw2_Config.f nm img conc mn mx gr name = some (n, i, c, m, x, g) ∧
    (shortL n.data.toList 16 = true ∧ n.size ≤ 3) ∧ 0 ≤ i ∧ i ≤ 255 ∧ 1 ≤ c ∧ c ≤ 8 ∧ 1 ≤ x ∧ x ≤ 10 ∧ 0 ≤ m ∧ m ≤ x ∧ 0 ≤ g ∧ g ≤ 30 := by
  have w1 := wi_in name 3 (by decide) (by decide); have w2 := wi_in img 256 (by decide) (by decide); have w3 := wi_in conc 8 (by decide) (by decide); have w4 := wi_in mx 10 (by decide) (by decide); have w5 := wi_in gr 31 (by decide) (by decide); have hn := cname_ok (wi name 3) w1.1 w1.2; unfold damperlaw2_Config.f; rw [Option.bind_some, if_pos w1.1]; rw [if_pos (show wi name 3 < ((([(⟨#[119, 101, 98]⟩ : ByteArray), (⟨#[97, 112, 105]⟩ : ByteArray), (⟨#[97, 45, 98]⟩ : ByteArray)] : List ByteArray).length : Nat) : Int) from w1.2)]; generalize wi name 3 = t1 at w1 hn ⊢; generalize wi img 256 = t2 at w2 ⊢; generalize wi conc 8 = t3 at w3 ⊢; generalize wi mx 10 = t4 at w4 ⊢; generalize wi gr 31 = t5 at w5 ⊢; rw [w64_small (1 + t3) (by omega) (by omega), w64_small (1 + t4) (by omega) (by omega), w64_small (1 + t4 + 1) (by omega) (by omega), if_neg (by omega)]; have w6 := wi_in mn (1 + t4 + 1) (by omega) (by omega); generalize wi mn (1 + t4 + 1) = t6 at w6 ⊢; exact ⟨_, _, _, _, _, _, rfl, hn, by omega, by omega, by omega, by omega, by omega, by omega, by omega, by omega, by omega, by omega⟩
theorem cfgE_ok {n : ByteArray} {i c m x g : Int} (h : (shortL n.data.toList 16 = true ∧ n.size ≤ 3) ∧ 0 ≤ i ∧ i ≤ 255 ∧ 1 ≤ c ∧ c ≤ 8 ∧ 1 ≤ x ∧ x ≤ 10 ∧ 0 ≤ m ∧ m ≤ x ∧ 0 ≤ g ∧ g ≤ 30) : cfgE n.data.toList i c m x g = 0 := by
  unfold cfgE; rw [if_pos h.1.1, if_pos (cfgOk_yes h.2)]
/-- The target at place j: what it may be. -/
def GoodT (cf : ByteArray) (j : Nat) (t : S39) : Prop :=
  (t.f0 = ⟨#[]⟩ ∨ ∃ d : Nat, d < 4 ∧ t.f0.data.toList = cf.data.toList ++ 45 :: [UInt8.ofNat (49 + d)]) ∧ (t.f1 = ⟨#[]⟩ ∨ t.f1 = (⟨#[116]⟩ : ByteArray) ++ ⟨#[UInt8.ofNat (48 + j)]⟩) ∧ 0 ≤ t.f2 ∧ t.f2 ≤ 100
def psum : List S39 → Int
  | [] => 0
  | t :: ts => t.f2 + psum ts
theorem psum_snoc : ∀ (l : List S39) (t : S39), psum (l ++ [t]) = psum l + t.f2
  | [], t => by simp [psum]
  | x :: xs, t => by rw [List.cons_append, psum, psum_snoc xs t, psum]; omega
def GoodL (cf : ByteArray) (l : List S39) : Prop := ∀ (j : Nat) (h : j < l.length), GoodT cf j l[j]
theorem GoodL.snoc {cf : ByteArray} {l : List S39} {t : S39} (h : GoodL cf l) (ht : GoodT cf l.length t) : GoodL cf (l ++ [t]) := by
  intro j hj; rw [List.length_append] at hj; by_cases e : j < l.length
  · rw [List.getElem_append_left e]; exact h j e
  · obtain rfl : j = l.length := by simp at hj; omega
    simpa using ht
theorem one_byte (v : Int) (h0 : 0 ≤ v) (h1 : v < 256) : strOfNums [v] = ⟨#[UInt8.ofNat v.toNat]⟩ := by
  obtain ⟨n, rfl⟩ := Int.eq_ofNat_of_zero_le h0; rfl
theorem gen_j4 (k : Nat) (ns : List Int) (left n : Int) (i : Nat) (v : Int) (nm cf : ByteArray) (acc : List S39) (roll : Int) (r0 : ByteArray) (p : Int) (hi : i ≤ 100) (ha : acc.length ≤ 100) (h0 : 0 ≤ p) (h1 : p ≤ left) (h2 : left ≤ 100) :
    ∃ tag, (tag = ⟨#[]⟩ ∨ tag = (⟨#[116]⟩ : ByteArray) ++ ⟨#[UInt8.ofNat (48 + i)]⟩) ∧ damperlaw2_Route.j4 (k + 1) ns left n (i : Int) v nm cf acc roll r0 ⟨#[]⟩ p = damperlaw2_Route.l0 k ns (left - p) n ((i + 1 : Nat) : Int) nm cf (acc ++ [⟨r0, tag, p⟩]) roll := by
  rw [damperlaw2_Route.j4, w64_small (left - p) (by omega) (by omega), w64_small ((i : Int) + 1) (by omega) (by omega), w64_small (48 + (i : Int)) (by omega) (by omega), show (48 + (i : Int)) % 256 = 48 + (i : Int) by omega]; by_cases hw : wi (wrap64 (Int.tdiv v 1212)) 3 = 0
  · rw [if_pos hw, Option.bind_some, one_byte _ (by omega) (by omega), show (48 + (i : Int)).toNat = 48 + i by omega, if_pos (by show 1 + 1 ≤ _; omega), if_pos (by omega)]; exact ⟨_, .inr rfl, rfl⟩
  · rw [if_neg hw, if_pos (by omega)]; exact ⟨_, .inl rfl, rfl⟩
theorem gen_j3 (k : Nat) (ns : List Int) (left n : Int) (i : Nat) (v : Int) (nm cf : ByteArray) (acc : List S39) (roll : Int) (p : Int) (hi : i ≤ 100) (ha : acc.length ≤ 100) (h0 : 0 ≤ p) (h1 : p ≤ left) (h2 : left ≤ 100) (hc : cf.size ≤ 3) :
    ∃ t, GoodT cf i t ∧ t.f2 = p ∧ damperlaw2_Route.j3 (k + 2) ns left n (i : Int) v nm cf acc roll ⟨#[]⟩ ⟨#[]⟩ p = damperlaw2_Route.l0 k ns (left - p) n ((i + 1 : Nat) : Int) nm cf (acc ++ [t]) roll := by
  rw [damperlaw2_Route.j3]; by_cases hw : wi (wrap64 (Int.tdiv v 101)) 3 > 0
  · have w := wi_in (wrap64 (Int.tdiv v 303)) 4 (by decide) (by decide); generalize wi (wrap64 (Int.tdiv v 303)) 4 = d at w ⊢; obtain ⟨d, rfl⟩ := Int.eq_ofNat_of_zero_le w.1; rw [if_pos hw, if_pos (by omega), Option.bind_some, w64_small (49 + (d : Int)) (by omega) (by omega), show (49 + (d : Int)) % 256 = 49 + (d : Int) by omega, one_byte _ (by omega) (by omega), show (49 + (d : Int)).toNat = 49 + d by omega]; (have e : (cf ++ (⟨#[45]⟩ : ByteArray)).size = cf.size + 1 := by rw [ByteArray.size_append]; rfl); have e2 : (⟨#[UInt8.ofNat (49 + d)]⟩ : ByteArray).size = 1 := rfl; rw [e, e2, if_pos (by omega)]; obtain ⟨tag, ht, e3⟩ := gen_j4 k ns left n i v nm cf acc roll (cf ++ ⟨#[45]⟩ ++ ⟨#[UInt8.ofNat (49 + d)]⟩) p hi ha h0 h1 h2; exact ⟨⟨_, tag, p⟩, ⟨.inr ⟨d, by omega, by simp⟩, ht, h0, by show p ≤ 100; omega⟩, rfl, e3⟩
  · rw [if_neg hw]; obtain ⟨tag, ht, e3⟩ := gen_j4 k ns left n i v nm cf acc roll ⟨#[]⟩ p hi ha h0 h1 h2; exact ⟨⟨_, tag, p⟩, ⟨.inl rfl, ht, h0, by show p ≤ 100; omega⟩, rfl, e3⟩
theorem gen_l0 (ns : List Int) (hns : ns.length ≤ 9223372036854775807) (n : Nat) (nm cf : ByteArray) (roll : Int) (hn : n ≤ 6) (hc : cf.size ≤ 3) : ∀ (m i k : Nat) (left : Int) (acc : List S39), n - i = m → i ≤ n → 4 * m + 1 ≤ k → 0 ≤ left → left ≤ 100 → acc.length = i → GoodL cf acc → psum acc = 100 - left →
    ∃ l, damperlaw2_Route.l0 k ns left (n : Int) (i : Int) nm cf acc roll = some (nm, cf, l, roll) ∧ l.length = n ∧ GoodL cf l ∧ (0 < m → psum l = 100) ∧ (m = 0 → psum l = 100 - left)
  | m, i, k, left, acc, hm, hi, hk, h0, h1, ha, hg, hp => by
    obtain ⟨k, rfl⟩ : ∃ j, k = j + 1 := ⟨k - 1, by omega⟩; rw [damperlaw2_Route.l0, w64_small ((i : Int) + 1) (by omega) (by omega)]; by_cases h : i < n
    · have main : ∀ v, ∃ l, damperlaw2_Route.j2 k ns left (n : Int) (i : Int) v nm cf acc roll = some (nm, cf, l, roll) ∧ l.length = n ∧ GoodL cf l ∧ (0 < m → psum l = 100) ∧ (m = 0 → psum l = 100 - left) := by
        intro v; obtain ⟨k, rfl⟩ : ∃ j, k = j + 3 := ⟨k - 3, by omega⟩; rw [damperlaw2_Route.j2, w64_small (left + 1) (by omega) (by omega), w64_small ((n : Int) - 1) (by omega) (by omega), if_neg (by omega)]; by_cases hl : (i : Int) = (n : Int) - 1
        · rw [if_pos hl]; obtain ⟨t, ht, hf, e⟩ := gen_j3 k ns left n i v nm cf acc roll left (by omega) (by omega) h0 (Int.le_refl _) h1 hc; rw [e]; obtain ⟨l, e1, e2, e3, e4, e5⟩ := gen_l0 ns hns n nm cf roll hn hc (m - 1) (i + 1) k (left - left) (acc ++ [t]) (by omega) (by omega) (by omega) (by omega) (by omega) (by simp [ha]) (hg.snoc (ha ▸ ht)) (by rw [psum_snoc, hf]; omega); exact ⟨l, e1, e2, e3, fun _ => by have := e5 (by omega); omega, fun hh => by omega⟩
        · rw [if_neg hl]; have w := wi_in v (left + 1) (by omega) (by omega); generalize wi v (left + 1) = p at w ⊢; obtain ⟨t, ht, hf, e⟩ := gen_j3 k ns left n i v nm cf acc roll p (by omega) (by omega) w.1 (by omega) h1 hc; rw [e]; obtain ⟨l, e1, e2, e3, e4, e5⟩ := gen_l0 ns hns n nm cf roll hn hc (m - 1) (i + 1) k (left - p) (acc ++ [t]) (by omega) (by omega) (by omega) (by omega) (by omega) (by simp [ha]) (hg.snoc (ha ▸ ht)) (by rw [psum_snoc, hf]; omega); exact ⟨l, e1, e2, e3, fun _ => e4 (by omega), fun hh => by omega⟩
      rw [if_pos (by omega)]; by_cases hb : (i : Int) + 1 < (ns.length : Int)
      · rw [if_pos hb, if_pos (by omega)]; exact main _
      · rw [if_neg hb]; exact main _
    · rw [if_neg (by omega)]; exact ⟨acc, rfl, by omega, hg, fun hh => by omega, fun _ => hp⟩
/-- Any numbers make a route: its name, its configuration's, its targets, its time. -/
theorem gen_ok (k : Nat) (hk : 40 ≤ k) (a0 : Int) (ns : List Int) (hns : ns.length ≤ 9223372036854775807) (a2 : Int) : ∃ nm cf l roll, damperlaw2_Route.f k a0 ns a2 = some (nm, cf, l, roll) ∧ (shortL nm.data.toList 16 = true ∧ nm.size ≤ 5) ∧ ((∃ t, 0 ≤ t ∧ t < 3 ∧ cf = rdOf ByteArray.empty cnames t) ∧ shortL cf.data.toList 16 = true ∧ cf.size ≤ 3) ∧ (0 ≤ roll ∧ roll ≤ 60) ∧ (1 ≤ l.length ∧ l.length ≤ 6) ∧ GoodL cf l ∧ psum l = 100 := by
  have w1 := wi_in a0 3 (by decide) (by decide); have w2 := wi_in (wrap64 (Int.tdiv a0 3)) 3 (by decide) (by decide); have w3 := wi_in a2 61 (by decide) (by decide); have hn := fname_ok (wi a0 3) w1.1 w1.2; have hc := cname_ok (wi (wrap64 (Int.tdiv a0 3)) 3) w2.1 w2.2
  have j : ∀ n : Nat, 1 ≤ n → n ≤ 6 → ∃ l, damperlaw2_Route.j0 k ns 100 (n : Int) (rdOf ByteArray.empty fnames (wi a0 3)) (rdOf ByteArray.empty cnames (wi (wrap64 (Int.tdiv a0 3)) 3)) (wi a2 61) = some (rdOf ByteArray.empty fnames (wi a0 3), rdOf ByteArray.empty cnames (wi (wrap64 (Int.tdiv a0 3)) 3), l, wi a2 61) ∧ l.length = n ∧ GoodL (rdOf ByteArray.empty cnames (wi (wrap64 (Int.tdiv a0 3)) 3)) l ∧ psum l = 100 := by
    intro n h1 h6; obtain ⟨k, rfl⟩ : ∃ j, k = j + 1 := ⟨k - 1, by omega⟩; rw [damperlaw2_Route.j0]; obtain ⟨l, e1, e2, e3, e4, _⟩ := gen_l0 ns hns n (rdOf ByteArray.empty fnames (wi a0 3)) (rdOf ByteArray.empty cnames (wi (wrap64 (Int.tdiv a0 3)) 3)) (wi a2 61) h6 hc.2 n 0 k 100 [] (by omega) (by omega) (by omega) (by omega) (by omega) rfl (fun j h => absurd h (Nat.not_lt_zero _)) (by rfl); exact ⟨l, e1, e2, e3, e4 (by omega)⟩
  have fin : ∀ n : Nat, 1 ≤ n → n ≤ 6 → ∃ nm cf l roll, damperlaw2_Route.j0 k ns 100 (n : Int) (rdOf ByteArray.empty fnames (wi a0 3)) (rdOf ByteArray.empty cnames (wi (wrap64 (Int.tdiv a0 3)) 3)) (wi a2 61) = some (nm, cf, l, roll) ∧ (shortL nm.data.toList 16 = true ∧ nm.size ≤ 5) ∧ ((∃ t, 0 ≤ t ∧ t < 3 ∧ cf = rdOf ByteArray.empty cnames t) ∧ shortL cf.data.toList 16 = true ∧ cf.size ≤ 3) ∧ (0 ≤ roll ∧ roll ≤ 60) ∧ (1 ≤ l.length ∧ l.length ≤ 6) ∧ GoodL cf l ∧ psum l = 100 := by
    intro n h1 h6; obtain ⟨l, e1, e2, e3, e4⟩ := j n h1 h6; exact ⟨_, _, l, _, e1, hn, ⟨⟨_, w2.1, w2.2, rfl⟩, hc⟩, ⟨w3.1, by omega⟩, by omega, e3, e4⟩
  unfold damperlaw2_Route.f; change ∃ nm cf l roll, (if 0 ≤ wi a0 3 then (if wi a0 3 < (3 : Int) then (if 0 ≤ wi (wrap64 (Int.tdiv a0 3)) 3 then (if wi (wrap64 (Int.tdiv a0 3)) 3 < (3 : Int) then (if (ns.length : Int) > 0 then (if 0 < (ns.length : Int) then damperlaw2_Route.j0 k ns 100 (wrap64 (1 + wi (rd ns 0) 6)) (rdOf ByteArray.empty fnames (wi a0 3)) (rdOf ByteArray.empty cnames (wi (wrap64 (Int.tdiv a0 3)) 3)) (wi a2 61) else none) else damperlaw2_Route.j0 k ns 100 1 (rdOf ByteArray.empty fnames (wi a0 3)) (rdOf ByteArray.empty cnames (wi (wrap64 (Int.tdiv a0 3)) 3)) (wi a2 61)) else none) else none) else none) else none) = _ ∧ _; rw [if_pos w1.1, if_pos w1.2, if_pos w2.1, if_pos w2.2]; by_cases hl : (ns.length : Int) > 0
  · have w4 := wi_in (rd ns 0) 6 (by decide) (by decide); rw [if_pos hl, if_pos hl]; generalize wi (rd ns 0) 6 = q at w4 ⊢; obtain ⟨q, rfl⟩ := Int.eq_ofNat_of_zero_le w4.1; rw [w64_small _ (by omega) (by omega), show (1 + (q : Int)) = ((1 + q : Nat) : Int) by omega]; exact fin (1 + q) (by omega) (by omega)
  · rw [if_neg hl]; exact fin 1 (by omega) (by omega)

theorem dig6_one (d : Nat) (h : d < 4) : dig 6 (1 + d) = [UInt8.ofNat (49 + d)] := by
  rcases (show d = 0 ∨ d = 1 ∨ d = 2 ∨ d = 3 by omega) with rfl | rfl | rfl | rfl <;> decide
theorem nil_tl : (⟨#[]⟩ : ByteArray).toList = [] := by rw [Lib.toList_data]
theorem good_tgE {cf : ByteArray} (hc : shortL cf.data.toList 16 = true) {j : Nat} (hj : j < 10) {t : S39} (h : GoodT cf j t) : tgE t = 0 := by
  obtain ⟨h0, h1, h2⟩ := h
  have a : ¬ (t.f0.toList ≠ [] ∧ (splitV t.f0).2.2 = false) := by
    rintro ⟨b1, b2⟩; rcases h0 with h0 | ⟨d, hd, h0⟩
    · rw [h0] at b1; exact b1 nil_tl
    · rw [splitV_parts t.f0 cf.data.toList (1 + d) ⟨hc, by omega, by omega, by rw [dig6_one d hd]; exact h0⟩] at b2; cases b2
  have b : ¬ (t.f1.toList ≠ [] ∧ shortL t.f1.data.toList 8 = false) := by
    rintro ⟨b1, b2⟩; rcases h1 with h1 | h1
    · rw [h1] at b1; exact b1 nil_tl
    · rw [h1] at b2; revert b2; (have : ∀ j : Nat, j < 10 → ¬ (shortL ((⟨#[116]⟩ : ByteArray) ++ ⟨#[UInt8.ofNat (48 + j)]⟩).data.toList 8 = false) := by decide); exact this j hj
  unfold tgE tgt; rw [if_neg a, if_neg b, if_pos h2]
theorem good_size {cf : ByteArray} (hc : cf.size ≤ 3) {j : Nat} {t : S39} (h : GoodT cf j t) : t.f0.size ≤ 5 ∧ t.f1.size ≤ 2 := by
  obtain ⟨h0, h1, _⟩ := h; constructor
  · rcases h0 with h0 | ⟨d, hd, h0⟩
    · rw [h0]; exact Nat.zero_le _
    · have : t.f0.size = t.f0.data.toList.length := rfl; rw [this, h0]; have : cf.size = cf.data.toList.length := rfl; simp; omega
  · rcases h1 with h1 | h1
    · rw [h1]; exact Nat.zero_le _
    · rw [h1, ByteArray.size_append]; exact Nat.le_refl 2
theorem firstE_zero {l : List S39} (h : ∀ t ∈ l, tgE t = 0) : firstE l = 0 := by
  induction l with
  | nil => rfl
  | cons t ts ih => rw [firstE, if_pos (h t (by simp)), ih (fun x hx => h x (by simp [hx]))]
theorem GoodL.tg {cf : ByteArray} (hc : shortL cf.data.toList 16 = true) {l : List S39} (hl : l.length ≤ 6) (h : GoodL cf l) : ∀ t ∈ l, tgE t = 0 := by
  intro t ht; obtain ⟨i, hi, rfl⟩ := List.getElem_of_mem ht; exact good_tgE hc (by omega) (h i hi)
/-- No tag stands there twice. -/
def Once (l : List S39) : Prop := ∀ (i j : Nat) (hi : i < l.length) (hj : j < l.length), i < j → l[j].f1.toList ≠ [] → (l[i].f1.toList == l[j].f1.toList) = false
theorem GoodL.once {cf : ByteArray} {l : List S39} (hl : l.length ≤ 6) (h : GoodL cf l) : Once l := by
  intro i j hi hj hij hne; obtain ⟨_, h1, _⟩ := h i hi; obtain ⟨_, h2, _⟩ := h j hj; generalize l[i].f1 = x at h1 ⊢; generalize l[j].f1 = y at h2 hne ⊢; rcases h2 with rfl | rfl
  · exact absurd nil_tl hne
  rcases h1 with rfl | rfl
  · rw [nil_tl, Lib.toList_data]; simp
  · (have : ∀ i : Nat, i < 6 → ∀ j : Nat, j < 6 → i < j → (((⟨#[116]⟩ : ByteArray) ++ ⟨#[UInt8.ofNat (48 + i)]⟩).data.toList == ((⟨#[116]⟩ : ByteArray) ++ ⟨#[UInt8.ofNat (48 + j)]⟩).data.toList) = false := by decide); rw [Lib.toList_data, Lib.toList_data]; exact this i (by omega) j (by omega) hij
theorem all_sum : ∀ (ts pre : List S39) (s : Int) (c : Nat), Once (pre ++ ts) → (∀ t ∈ ts, -200 ≤ t.f2 ∧ t.f2 ≤ 200) → -(200 * (c : Int)) ≤ s → s ≤ 200 * (c : Int) → c + ts.length ≤ 100 → all_go pre ts s = if s + psum ts = 100 then 0 else 4
  | [], pre, s, _, _, _, _, _, _ => by rw [all_go, psum, Int.add_zero]
  | t :: ts, pre, s, c, ho, hb, h0, h1, hl => by
    have hb1 := hb t (by simp); rw [List.length_cons] at hl
    have hno : ¬ (t.f1.toList ≠ [] ∧ pre.any (fun y => y.f1.toList == t.f1.toList) = true) := by
      rintro ⟨a, b⟩; obtain ⟨y, hy, he⟩ := List.any_eq_true.1 b; obtain ⟨i, hi, rfl⟩ := List.getElem_of_mem hy; have e1 : (pre ++ t :: ts)[i]'(by simp; omega) = pre[i] := List.getElem_append_left hi; (have e2 : (pre ++ t :: ts)[pre.length]'(by simp) = t := by simp); have := ho i pre.length (by simp; omega) (by simp) hi (by rw [e2]; exact a); rw [e1, e2, he] at this; cases this
    rw [all_go, if_neg hno, w64_small _ (by omega) (by omega), psum]; rw [all_sum ts (pre ++ [t]) (s + t.f2) (c + 1) (by rw [List.append_assoc]; exact ho) (fun x hx => hb x (by simp [hx])) (by omega) (by omega) (by omega), show s + t.f2 + psum ts = s + (t.f2 + psum ts) by omega]

theorem digits_eq : ∀ (j u k : Nat), u < 10 ^ (j + 1) → u < 1000000000 → j ≤ 10 → j + 1 ≤ k → damperref1_Digits.f k (u : Int) = some ⟨(dig (j + 1) u).toArray⟩
  | j, u, k, hu, hb, hj, hk => by
    obtain ⟨k, rfl⟩ : ∃ i, k = i + 1 := ⟨k - 1, by omega⟩; rw [damperref1_Digits.f, dig, if_neg (by omega)]; by_cases h : u < 10
    · rw [if_neg (by omega), if_pos h, w64_small _ (by omega) (by omega)]
      congr 1
      unfold strOfNums; (have : (((48 : Int) + (u : Int)) % 256).toNat = 48 + u := by omega); simp [this]
    · rw [if_pos (by omega), if_neg h]
      cases j with
      | zero => exact absurd hu (by omega)
      | succ j =>
        have e1 : wrap64 (Int.tdiv (u : Int) 10) = ((u / 10 : Nat) : Int) := by
          rw [show Int.tdiv (u : Int) 10 = ((u / 10 : Nat) : Int) from rfl, w64_small _ (by omega) (by omega)]
        have e2 : Int.tmod (u : Int) 10 = ((u % 10 : Nat) : Int) := rfl; have hp : u / 10 < 10 ^ (j + 1) := by rw [Nat.pow_succ] at hu; omega
        rw [e1, e2, digits_eq j (u / 10) k hp (by omega) (by omega) (by omega), Option.bind_some,
          digits_eq 0 (u % 10) k (by omega) (by omega) (by omega) (by omega), Option.bind_some]
        have l1 := dig_len (j + 1) (u / 10); have l2 := dig_len (0 + 1) (u % 10); (have z1 : (⟨(dig (j + 1) (u / 10)).toArray⟩ : ByteArray).size = (dig (j + 1) (u / 10)).length := by simp [ByteArray.size]); (have z2 : (⟨(dig (0 + 1) (u % 10)).toArray⟩ : ByteArray).size = (dig (0 + 1) (u % 10)).length := by simp [ByteArray.size]); rw [z1, z2, if_pos (by omega)]
        congr 1
        apply ba_ext; (have : dig (0 + 1) (u % 10) = [UInt8.ofNat (48 + u % 10)] := by rw [dig, if_pos (by omega)]); rw [this]; simp
theorem rrev_eq (s : ByteArray) (hs : s.size < 1000000) (g : Int) (k : Nat) (hk : s.data.toList.length + 20 ≤ k) : damperref1_Rev.f k s g = some ⟨(revL s.data.toList g).toArray⟩ := by
  unfold damperref1_Rev.f; rw [rname_eq s (by omega) k (by omega), Option.bind_some]; obtain ⟨k, rfl⟩ : ∃ i, k = i + 1 := ⟨k - 1, by omega⟩; unfold revL; by_cases h1 : shortL s.data.toList 16 = true
  · rw [if_pos h1]; by_cases h2 : g < 1
    · rw [if_pos h2, if_neg (by omega)]; rfl
    · rw [if_neg h2]; by_cases h3 : g > 999999
      · rw [decide_eq_true h3, if_neg (by omega)]; rfl
      · rw [decide_eq_false h3, if_pos ⟨h1, by omega, by omega⟩]; have hl := short_le h1; have hz : s.size = s.data.toList.length := rfl; obtain ⟨u, rfl⟩ := Int.eq_ofNat_of_zero_le (show 0 ≤ g by omega); have hi := dig_len 6 u; rw [damperref1_Rev.j0, if_neg (by decide), if_pos (by omega), digits_eq 5 u k (by omega) (by omega) (by omega) (by omega), Option.bind_some, if_pos]
        · congr 1
          apply ba_ext; simp
        · (have e : (s ++ (⟨#[45]⟩ : ByteArray)).size = s.size + 1 := by rw [ByteArray.size_append]; rfl); (have e2 : (⟨(dig (5 + 1) u).toArray⟩ : ByteArray).size = (dig (5 + 1) u).length := by simp [ByteArray.size]); have hi' : (dig (5 + 1) u).length ≤ 6 := hi; rw [e, e2]; omega
  · rw [if_neg h1, if_neg (fun h => h1 h.1)]; rfl

/-! ### What digits are worth -/

/-- What an event of a kind has: a number, a name, a tag, a draw, a configuration, a route. -/
def shp (kd : Int) : Bool × Bool × Bool × Bool × Bool × Bool × Bool :=
  if kd = 1 then (true, false, false, false, true, false, true) else if kd = 2 then (true, false, false, false, false, true, true)
  else if kd = 3 then (true, true, false, true, false, false, true) else if kd = 4 then (true, true, true, true, false, false, true)
  else if 5 ≤ kd ∧ kd ≤ 8 then (true, false, false, false, false, false, true) else if kd = 9 then (false, false, false, false, false, false, true)
  else if 10 ≤ kd ∧ kd ≤ 13 then (false, true, false, false, false, false, true) else (false, false, false, false, false, false, false)
theorem shp_eq (k : Nat) (kd : Int) : event_shape.f (k + 2) kd = some (shp kd) := by
  unfold event_shape.f shp; by_cases h1 : kd = 1
  · rw [if_pos h1, if_pos h1]
  rw [if_neg h1, if_neg h1]; by_cases h2 : kd = 2
  · rw [if_pos h2, if_pos h2]
  rw [if_neg h2, if_neg h2]; by_cases h3 : kd = 3
  · rw [if_pos h3, if_pos h3]
  rw [if_neg h3, if_neg h3]; by_cases h4 : kd = 4
  · rw [if_pos h4, if_pos h4]
  rw [if_neg h4, if_neg h4]; by_cases h5 : 5 ≤ kd ∧ kd ≤ 8
  · rw [if_pos h5]; rcases (show kd = 5 ∨ kd = 6 ∨ kd = 7 ∨ kd = 8 by omega) with rfl | rfl | rfl | rfl <;> rfl
  rw [if_neg h5, if_neg (show ¬ kd = 5 by omega), if_neg (show ¬ kd = 6 by omega), if_neg (show ¬ kd = 7 by omega), show (kd == 8) = false from beq_eq_false_iff_ne.2 (by omega), event_shape.j0, if_neg (by simp)]; by_cases h9 : kd = 9
  · rw [if_pos h9, if_pos h9]
  rw [if_neg h9, if_neg h9]; by_cases a0 : 10 ≤ kd ∧ kd ≤ 13
  · rw [if_pos a0]; rcases (show kd = 10 ∨ kd = 11 ∨ kd = 12 ∨ kd = 13 by omega) with rfl | rfl | rfl | rfl <;> rfl
  rw [if_neg a0, if_neg (show ¬ kd = 10 by omega), if_neg (show ¬ kd = 11 by omega), if_neg (show ¬ kd = 12 by omega), show (kd == 13) = false from beq_eq_false_iff_ne.2 (by omega), event_shape.j1, if_neg (by simp)]
def inB (n a b : Int) : Bool := decide (a ≤ n) && decide (n ≤ b)
theorem within_eq (n a b : Int) : event_within.f n a b = some (inB n a b) := by
  unfold event_within.f inB; by_cases h : n ≥ a
  · rw [if_pos h, decide_eq_true (show a ≤ n from h), Bool.true_and]
  · rw [if_neg h, decide_eq_false (show ¬ a ≤ n from h), Bool.false_and]
def numOk (kd n : Int) : Bool := if kd = 1 ∨ kd = 2 then inB n 0 2147483647 else if kd = 3 then inB n 1 2 else inB n 1 2147483647
theorem num_eq (k : Nat) (kd : Int) (nm tg : ByteArray) (n dr : Int) (c0 : ByteArray) (c1 c2 c3 c4 c5 : Int) (rn rc : ByteArray) (ts : List S39) (ro : Int) : event_number.f (k + 1) kd nm tg n dr c0 c1 c2 c3 c4 c5 rn rc ts ro = some (numOk kd n) := by
  unfold event_number.f numOk; by_cases h1 : kd = 1
  · subst h1; rw [if_pos rfl, event_number.j0, if_pos (by decide), within_eq]; rfl
  rw [if_neg h1, event_number.j0]; by_cases h2 : kd = 2
  · subst h2; rw [if_pos (by decide), within_eq]; rfl
  rw [if_neg (by simpa using h2), if_neg (show ¬ (kd = 1 ∨ kd = 2) by omega), within_eq, within_eq]; by_cases h3 : kd = 3
  · rw [if_pos h3, if_pos h3]; rfl
  · rw [if_neg h3, if_neg h3]; rfl
def nameOk (kd : Int) (nm : ByteArray) : Bool := if kd = 12 ∨ kd = 13 then (splitV nm).2.2 else shortL nm.data.toList 16
theorem named_eq (k : Nat) (kd : Int) (nm tg : ByteArray) (n dr : Int) (c0 : ByteArray) (c1 c2 c3 c4 c5 : Int) (rn rc : ByteArray) (ts : List S39) (ro : Int) (hn : nm.size ≤ 140737488351232) : event_named.f (k + 1) kd nm tg n dr c0 c1 c2 c3 c4 c5 rn rc ts ro = some (nameOk kd nm) := by
  unfold event_named.f nameOk; by_cases h1 : kd = 12
  · subst h1; rw [if_pos rfl, event_named.j0, if_pos rfl, split_eq nm hn]; rfl
  rw [if_neg h1, event_named.j0]; by_cases h2 : kd = 13
  · subst h2; rw [if_pos (by decide), split_eq nm hn]; rfl
  rw [if_neg (by simpa using h2), if_neg (show ¬ (kd = 12 ∨ kd = 13) by omega), name_eq]; rfl
def isNil (s : ByteArray) : Bool := s.toList == ([] : List UInt8)
def zInt (b : Bool) (n : Int) : Bool := b || n == 0
def zStr (b : Bool) (s : ByteArray) : Bool := b || isNil s
theorem zInt_eq (b : Bool) (n : Int) : event_none_int.f b n = some (zInt b n) := by cases b <;> rfl
theorem zStr_eq (b : Bool) (s : ByteArray) : event_none_string.f b s = some (zStr b s) := by cases b <;> rfl
def cfgZ (c0 : ByteArray) (c1 c2 c3 c4 c5 : Int) : Bool := c0.toList == ([] : List UInt8) && (c1 == 0 && (c2 == 0 && (c3 == 0 && (c4 == 0 && (c5 == 0)))))
theorem zCfg_eq (b : Bool) (c0 : ByteArray) (c1 c2 c3 c4 c5 : Int) : api_Config.f b c0 c1 c2 c3 c4 c5 = some (b || cfgZ c0 c1 c2 c3 c4 c5) := by cases b <;> rfl
def bareV (rn rc : ByteArray) (ts : List S39) (ro : Int) : Bool := isNil rn && (isNil rc && (ro == 0 && ts.length == 0))
theorem bare_eq (rn rc : ByteArray) (ts : List S39) (ro : Int) : event_bare.f rn rc ts ro = some (bareV rn rc ts ro) := by
  unfold event_bare.f bareV isNil; by_cases h1 : rn.toList = []
  · rw [if_pos h1, h1]; by_cases h2 : rc.toList = []
    · rw [if_pos h2, h2]; by_cases h3 : ro = 0
      · rw [if_pos h3, h3]; cases ts <;> simp; omega
      · rw [if_neg h3, show (ro == 0) = false by simpa using h3]; rfl
    · rw [if_neg h2, show (rc.toList == ([] : List UInt8)) = false by simpa using h2]; rfl
  · rw [if_neg h1, show (rn.toList == ([] : List UInt8)) = false by simpa using h1]; rfl
/-- Behind the draw: the configuration, the route. -/
def e4 (x : Bool) (c0 : ByteArray) (c1 c2 c3 c4 c5 : Int) (rn rc : ByteArray) (ts : List S39) (ro : Int) (fc fr : Bool) : Int :=
  if x = true then 2 else if fc = true then cfgE c0.data.toList c1 c2 c3 c4 c5 else if fr = true then routeE rn rc ts ro else 0
theorem j4_eq (k : Nat) (hk : 11 ≤ k) (x : Bool) (kd : Int) (nm tg : ByteArray) (n dr : Int) (c0 : ByteArray) (c1 c2 c3 c4 c5 : Int) (rn rc : ByteArray) (ts : List S39) (ro : Int) (f0 f1 f2 f3 f4 f5 : Bool) (hs : ∀ t ∈ ts, t.f0.size ≤ 140737488351232) :
    event_Check.j4 k x kd nm tg n dr c0 c1 c2 c3 c4 c5 rn rc ts ro f0 f1 f2 f3 f4 f5 = some (e4 x c0 c1 c2 c3 c4 c5 rn rc ts ro f4 f5) := by
  obtain ⟨k, rfl⟩ : ∃ j, k = j + 1 := ⟨k - 1, by omega⟩; rw [event_Check.j4, e4, route_eq k (by omega) rn rc ts ro hs]; obtain ⟨k, rfl⟩ : ∃ j, k = j + 1 := ⟨k - 1, by omega⟩; rw [cfg_eq]; cases x <;> cases f4 <;> cases f5 <;> rfl
def e3 (x : Bool) (dr : Int) (c0 : ByteArray) (c1 c2 c3 c4 c5 : Int) (rn rc : ByteArray) (ts : List S39) (ro : Int) (fd fc fr : Bool) : Int :=
  if x = true then 1 else e4 (fd && !inB dr 0 2147483647) c0 c1 c2 c3 c4 c5 rn rc ts ro fc fr
theorem j3_eq (k : Nat) (hk : 12 ≤ k) (x : Bool) (kd : Int) (nm tg : ByteArray) (n dr : Int) (c0 : ByteArray) (c1 c2 c3 c4 c5 : Int) (rn rc : ByteArray) (ts : List S39) (ro : Int) (f0 f1 f2 f3 f4 f5 : Bool) (hs : ∀ t ∈ ts, t.f0.size ≤ 140737488351232) :
    event_Check.j3 k x kd nm tg n dr c0 c1 c2 c3 c4 c5 rn rc ts ro f0 f1 f2 f3 f4 f5 = some (e3 x dr c0 c1 c2 c3 c4 c5 rn rc ts ro f3 f4 f5) := by
  obtain ⟨k, rfl⟩ : ∃ j, k = j + 1 := ⟨k - 1, by omega⟩; rw [event_Check.j3, e3, within_eq, Option.bind_some, j4_eq k (by omega) _ _ _ _ _ _ _ _ _ _ _ _ _ _ _ _ _ _ _ _ _ _ hs, j4_eq k (by omega) _ _ _ _ _ _ _ _ _ _ _ _ _ _ _ _ _ _ _ _ _ _ hs]; cases x <;> cases f3 <;> rfl
def e2 (x : Bool) (tg : ByteArray) (dr : Int) (c0 : ByteArray) (c1 c2 c3 c4 c5 : Int) (rn rc : ByteArray) (ts : List S39) (ro : Int) (ft fd fc fr : Bool) : Int :=
  if x = true then 1 else e3 (ft && (!isNil tg && !shortL tg.data.toList 8)) dr c0 c1 c2 c3 c4 c5 rn rc ts ro fd fc fr
theorem j2_eq (k : Nat) (hk : 13 ≤ k) (x : Bool) (kd : Int) (nm tg : ByteArray) (n dr : Int) (c0 : ByteArray) (c1 c2 c3 c4 c5 : Int) (rn rc : ByteArray) (ts : List S39) (ro : Int) (f0 f1 f2 f3 f4 f5 : Bool) (hs : ∀ t ∈ ts, t.f0.size ≤ 140737488351232) :
    event_Check.j2 k x kd nm tg n dr c0 c1 c2 c3 c4 c5 rn rc ts ro f0 f1 f2 f3 f4 f5 = some (e2 x tg dr c0 c1 c2 c3 c4 c5 rn rc ts ro f2 f3 f4 f5) := by
  obtain ⟨k, rfl⟩ : ∃ j, k = j + 1 := ⟨k - 1, by omega⟩; rw [event_Check.j2, e2, tag_eq, Option.bind_some, j3_eq k (by omega) _ _ _ _ _ _ _ _ _ _ _ _ _ _ _ _ _ _ _ _ _ _ hs, j3_eq k (by omega) _ _ _ _ _ _ _ _ _ _ _ _ _ _ _ _ _ _ _ _ _ _ hs]; unfold isNil; by_cases h : tg.toList = []
  · rw [if_pos h, h]; cases x <;> cases f2 <;> rfl
  · rw [if_neg h, show (tg.toList == ([] : List UInt8)) = false by simpa using h]; cases x <;> cases f2 <;> rfl
def e1 (x : Bool) (kd : Int) (nm tg : ByteArray) (dr : Int) (c0 : ByteArray) (c1 c2 c3 c4 c5 : Int) (rn rc : ByteArray) (ts : List S39) (ro : Int) (fm ft fd fc fr : Bool) : Int :=
  if x = true then 2 else e2 (fm && !nameOk kd nm) tg dr c0 c1 c2 c3 c4 c5 rn rc ts ro ft fd fc fr
theorem j1_eq (k : Nat) (hk : 14 ≤ k) (x : Bool) (kd : Int) (nm tg : ByteArray) (n dr : Int) (c0 : ByteArray) (c1 c2 c3 c4 c5 : Int) (rn rc : ByteArray) (ts : List S39) (ro : Int) (f0 f1 f2 f3 f4 f5 : Bool) (hn : nm.size ≤ 140737488351232) (hs : ∀ t ∈ ts, t.f0.size ≤ 140737488351232) :
    event_Check.j1 k x kd nm tg n dr c0 c1 c2 c3 c4 c5 rn rc ts ro f0 f1 f2 f3 f4 f5 = some (e1 x kd nm tg dr c0 c1 c2 c3 c4 c5 rn rc ts ro f1 f2 f3 f4 f5) := by
  obtain ⟨k, rfl⟩ : ∃ j, k = j + 1 := ⟨k - 1, by omega⟩; rw [event_Check.j1, e1, j2_eq k (by omega) _ _ _ _ _ _ _ _ _ _ _ _ _ _ _ _ _ _ _ _ _ _ hs]; obtain ⟨k, rfl⟩ : ∃ j, k = j + 1 := ⟨k - 1, by omega⟩; rw [named_eq k _ _ _ _ _ _ _ _ _ _ _ _ _ _ _ hn, Option.bind_some, j2_eq (k + 1) (by omega) _ _ _ _ _ _ _ _ _ _ _ _ _ _ _ _ _ _ _ _ _ _ hs]; cases x <;> cases f1 <;> rfl
def e0 (x : Bool) (kd : Int) (nm tg : ByteArray) (n dr : Int) (c0 : ByteArray) (c1 c2 c3 c4 c5 : Int) (rn rc : ByteArray) (ts : List S39) (ro : Int) (fn fm ft fd fc fr : Bool) : Int :=
  if x = true then 2 else e1 (fn && !numOk kd n) kd nm tg dr c0 c1 c2 c3 c4 c5 rn rc ts ro fm ft fd fc fr
theorem j0_eq (k : Nat) (hk : 15 ≤ k) (x : Bool) (kd : Int) (nm tg : ByteArray) (n dr : Int) (c0 : ByteArray) (c1 c2 c3 c4 c5 : Int) (rn rc : ByteArray) (ts : List S39) (ro : Int) (f0 f1 f2 f3 f4 f5 : Bool) (hn : nm.size ≤ 140737488351232) (hs : ∀ t ∈ ts, t.f0.size ≤ 140737488351232) :
    event_Check.j0 k x kd nm tg n dr c0 c1 c2 c3 c4 c5 rn rc ts ro f0 f1 f2 f3 f4 f5 = some (e0 x kd nm tg n dr c0 c1 c2 c3 c4 c5 rn rc ts ro f0 f1 f2 f3 f4 f5) := by
  obtain ⟨k, rfl⟩ : ∃ j, k = j + 1 := ⟨k - 1, by omega⟩; rw [event_Check.j0, e0, j1_eq k (by omega) _ _ _ _ _ _ _ _ _ _ _ _ _ _ _ _ _ _ _ _ _ _ hn hs]; obtain ⟨k, rfl⟩ : ∃ j, k = j + 1 := ⟨k - 1, by omega⟩; rw [num_eq k, Option.bind_some, j1_eq (k + 1) (by omega) _ _ _ _ _ _ _ _ _ _ _ _ _ _ _ _ _ _ _ _ _ _ hn hs]; cases x <;> cases f0 <;> rfl
/-- What is where it may not be. -/
def extra (kd : Int) (nm tg : ByteArray) (n dr : Int) (c0 : ByteArray) (c1 c2 c3 c4 c5 : Int) (rn rc : ByteArray) (ts : List S39) (ro : Int) : Bool :=
  !(zInt (shp kd).1 n && (zStr (shp kd).2.1 nm && (zStr (shp kd).2.2.1 tg && (zInt (shp kd).2.2.2.1 dr && (((shp kd).2.2.2.2.1 || cfgZ c0 c1 c2 c3 c4 c5) && ((shp kd).2.2.2.2.2.1 || bareV rn rc ts ro))))))
/-- What is wrong with an event. -/
def chkV (kd : Int) (nm tg : ByteArray) (n dr : Int) (c0 : ByteArray) (c1 c2 c3 c4 c5 : Int) (rn rc : ByteArray) (ts : List S39) (ro : Int) : Int :=
  if (shp kd).2.2.2.2.2.2 = true then e0 (extra kd nm tg n dr c0 c1 c2 c3 c4 c5 rn rc ts ro) kd nm tg n dr c0 c1 c2 c3 c4 c5 rn rc ts ro (shp kd).1 (shp kd).2.1 (shp kd).2.2.1 (shp kd).2.2.2.1 (shp kd).2.2.2.2.1 (shp kd).2.2.2.2.2.1 else 12
theorem chk_eq (k : Nat) (hk : 20 ≤ k) (kd : Int) (nm tg : ByteArray) (n dr : Int) (c0 : ByteArray) (c1 c2 c3 c4 c5 : Int) (rn rc : ByteArray) (ts : List S39) (ro : Int) (hn : nm.size ≤ 140737488351232) (hs : ∀ t ∈ ts, t.f0.size ≤ 140737488351232) :
    event_Check.f k kd nm tg n dr c0 c1 c2 c3 c4 c5 rn rc ts ro = some (chkV kd nm tg n dr c0 c1 c2 c3 c4 c5 rn rc ts ro) := by
  have hj := fun (x f0 f1 f2 f3 f4 f5 : Bool) => j0_eq k (by omega) x kd nm tg n dr c0 c1 c2 c3 c4 c5 rn rc ts ro f0 f1 f2 f3 f4 f5 hn hs; unfold event_Check.f chkV extra; obtain ⟨k, rfl⟩ : ∃ j, k = j + 2 := ⟨k - 2, by omega⟩; rw [shp_eq, Option.bind_some]; generalize shp kd = s; obtain ⟨s1, s2, s3, s4, s5, s6, s7⟩ := s; simp only [zInt_eq, zStr_eq, zCfg_eq, bare_eq, Option.bind_some, hj]; generalize zInt s1 n = b1; generalize zStr s2 nm = b2; generalize zStr s3 tg = b3; generalize zInt s4 dr = b4; generalize cfgZ c0 c1 c2 c3 c4 c5 = b5; generalize bareV rn rc ts ro = b6; cases s7
  · rfl
  · cases b1
    · rfl
    · cases b2
      · rfl
      · cases b3
        · rfl
        · cases b4
          · rfl
          · cases s5 <;> cases b5 <;> cases s6 <;> cases b6 <;> rfl

theorem good_route {nm cf : ByteArray} {l : List S39} {roll : Int} (h1 : shortL nm.data.toList 16 = true) (h2 : shortL cf.data.toList 16 = true) (hr : 0 ≤ roll ∧ roll ≤ 60) (hl : 1 ≤ l.length ∧ l.length ≤ 6) (hg : GoodL cf l) (hs : psum l = 100) : routeE nm cf l roll = 0 := by
  unfold routeE; rw [h1, h2, if_pos (by rfl), if_pos hr, if_pos hl, if_pos (firstE_zero (GoodL.tg h2 hl.2 hg)), all_sum l [] 0 0 (by simpa using GoodL.once hl.2 hg) (fun t ht => ?_) (by omega) (by omega) (by omega), if_pos (by omega)]; obtain ⟨i, hi, rfl⟩ := List.getElem_of_mem ht; have := (hg i hi).2.2; omega
/-- What an event that was made may be. -/
structure Made (kd : Int) (nm tg : ByteArray) (n dr : Int) (c0 : ByteArray) (c1 c2 c3 c4 c5 : Int) (rn rc : ByteArray) (ts : List S39) (ro : Int) : Prop where
  kind : 1 ≤ kd ∧ kd ≤ 13
  bare : extra kd nm tg n dr c0 c1 c2 c3 c4 c5 rn rc ts ro = false
  num : (shp kd).1 = true → numOk kd n = true
  name : (shp kd).2.1 = true → nameOk kd nm = true
  tag : isNil tg = true ∨ shortL tg.data.toList 8 = true
  draw : inB dr 0 2147483647 = true
  cfg : kd = 1 → (shortL c0.data.toList 16 = true ∧ c0.size ≤ 3) ∧ 0 ≤ c1 ∧ c1 ≤ 255 ∧ 1 ≤ c2 ∧ c2 ≤ 8 ∧ 1 ≤ c4 ∧ c4 ≤ 10 ∧ 0 ≤ c3 ∧ c3 ≤ c4 ∧ 0 ≤ c5 ∧ c5 ≤ 30
  route : kd = 2 → (shortL rn.data.toList 16 = true ∧ rn.size ≤ 5) ∧ (shortL rc.data.toList 16 = true ∧ rc.size ≤ 3) ∧ (0 ≤ ro ∧ ro ≤ 60) ∧ (1 ≤ ts.length ∧ ts.length ≤ 6) ∧ GoodL rc ts ∧ psum ts = 100
  small : nm.size ≤ 16 ∧ tg.size ≤ 2 ∧ 0 ≤ n ∧ n ≤ 60 ∧ (kd ≠ 2 → ts = [])
theorem Made.tsz {kd nm tg n dr c0 c1 c2 c3 c4 c5 rn rc ts ro} (h : Made kd nm tg n dr c0 c1 c2 c3 c4 c5 rn rc ts ro) : ∀ t ∈ ts, t.f0.size ≤ 5 ∧ t.f1.size ≤ 2 := by
  by_cases h2 : kd = 2
  · obtain ⟨_, ⟨_, hc⟩, _, _, hg, _⟩ := h.route h2; intro t ht; obtain ⟨i, hi, rfl⟩ := List.getElem_of_mem ht; exact good_size hc (hg i hi)
  · rw [h.small.2.2.2.2 h2]; intro t ht; cases ht
theorem chk_kind {kd : Int} (h : 1 ≤ kd ∧ kd ≤ 13) : (shp kd).2.2.2.2.2.2 = true := by
  rcases (show kd = 1 ∨ kd = 2 ∨ kd = 3 ∨ kd = 4 ∨ kd = 5 ∨ kd = 6 ∨ kd = 7 ∨ kd = 8 ∨ kd = 9 ∨ kd = 10 ∨ kd = 11 ∨ kd = 12 ∨ kd = 13 by omega) with rfl | rfl | rfl | rfl | rfl | rfl | rfl | rfl | rfl | rfl | rfl | rfl | rfl <;> rfl
/-- What is right in each part is right. -/
theorem chk_zero {kd : Int} {nm tg : ByteArray} {n dr : Int} {c0 : ByteArray} {c1 c2 c3 c4 c5 : Int} {rn rc : ByteArray} {ts : List S39} {ro : Int} (h : 1 ≤ kd ∧ kd ≤ 13) (hx : extra kd nm tg n dr c0 c1 c2 c3 c4 c5 rn rc ts ro = false)
    (h1 : (shp kd).1 = true → numOk kd n = true) (h2 : (shp kd).2.1 = true → nameOk kd nm = true) (h3 : isNil tg = true ∨ shortL tg.data.toList 8 = true) (h4 : (shp kd).2.2.2.1 = true → inB dr 0 2147483647 = true)
    (h5 : kd = 1 → cfgE c0.data.toList c1 c2 c3 c4 c5 = 0) (h6 : kd = 2 → routeE rn rc ts ro = 0) : chkV kd nm tg n dr c0 c1 c2 c3 c4 c5 rn rc ts ro = 0 := by
  have f5 : (shp kd).2.2.2.2.1 = true → kd = 1 := by
    rcases (show kd = 1 ∨ kd = 2 ∨ kd = 3 ∨ kd = 4 ∨ kd = 5 ∨ kd = 6 ∨ kd = 7 ∨ kd = 8 ∨ kd = 9 ∨ kd = 10 ∨ kd = 11 ∨ kd = 12 ∨ kd = 13 by omega) with rfl | rfl | rfl | rfl | rfl | rfl | rfl | rfl | rfl | rfl | rfl | rfl | rfl <;> decide
  have f6 : (shp kd).2.2.2.2.2.1 = true → kd = 2 := by
    rcases (show kd = 1 ∨ kd = 2 ∨ kd = 3 ∨ kd = 4 ∨ kd = 5 ∨ kd = 6 ∨ kd = 7 ∨ kd = 8 ∨ kd = 9 ∨ kd = 10 ∨ kd = 11 ∨ kd = 12 ∨ kd = 13 by omega) with rfl | rfl | rfl | rfl | rfl | rfl | rfl | rfl | rfl | rfl | rfl | rfl | rfl <;> decide
  unfold chkV; rw [if_pos (chk_kind h), hx]; generalize shp kd = s at h1 h2 h4 f5 f6 ⊢; obtain ⟨s1, s2, s3, s4, s5, s6, s7⟩ := s; simp only at h1 h2 h4 f5 f6 ⊢; (have a1 : (s1 && !numOk kd n) = false := by cases s1 <;> simp_all); (have a2 : (s2 && !nameOk kd nm) = false := by cases s2 <;> simp_all); (have a3 : (s3 && (!isNil tg && !shortL tg.data.toList 8)) = false := by rcases h3 with h3 | h3 <;> rw [h3] <;> simp); (have a4 : (s4 && !inB dr 0 2147483647) = false := by cases s4 <;> simp_all); unfold e0; rw [if_neg (by decide), a1]; unfold e1; rw [if_neg (by decide), a2]; unfold e2; rw [if_neg (by decide), a3]; unfold e3; rw [if_neg (by decide), a4]; unfold e4; rw [if_neg (by decide)]; by_cases h7 : s5 = true
  · rw [if_pos h7, h5 (f5 h7)]
  · rw [if_neg h7]; by_cases h8 : s6 = true
    · rw [if_pos h8, h6 (f6 h8)]
    · rw [if_neg h8]
theorem Made.ok {kd nm tg n dr c0 c1 c2 c3 c4 c5 rn rc ts ro} (h : Made kd nm tg n dr c0 c1 c2 c3 c4 c5 rn rc ts ro) : chkV kd nm tg n dr c0 c1 c2 c3 c4 c5 rn rc ts ro = 0 :=
  chk_zero h.kind h.bare h.num h.name h.tag (fun _ => h.draw) (fun e => cfgE_ok (h.cfg e)) (fun e => by
    obtain ⟨⟨a, _⟩, ⟨b, _⟩, c, d, f, g⟩ := h.route e
    exact good_route a b c d f g)
theorem inB_of {n a b : Int} (h0 : a ≤ n) (h1 : n ≤ b) : inB n a b = true := by unfold inB; rw [decide_eq_true h0, decide_eq_true h1]; rfl
theorem nm3_ok {x : Int} (h0 : 0 ≤ x) (h1 : x < 3) : shortL (nm3 x).data.toList 16 = true ∧ (nm3 x).size ≤ 16 := by
  rcases (show x = 0 ∨ x = 1 ∨ x = 2 by omega) with rfl | rfl | rfl <;> decide
theorem wb3_ok {x : Int} (h0 : 0 ≤ x) (h1 : x < 3) : shortL (wb3 x).data.toList 16 = true ∧ (wb3 x).size ≤ 16 := by
  rcases (show x = 0 ∨ x = 1 ∨ x = 2 by omega) with rfl | rfl | rfl <;> decide
theorem nm6_ok {x : Int} (h0 : 0 ≤ x) (h1 : x < 6) : shortL (nm6 x).data.toList 16 = true ∧ (nm6 x).size ≤ 16 := by
  rcases (show x = 0 ∨ x = 1 ∨ x = 2 ∨ x = 3 ∨ x = 4 ∨ x = 5 by omega) with rfl | rfl | rfl | rfl | rfl | rfl <;> decide
theorem tg4_ok {x : Int} (h0 : 0 ≤ x) (h1 : x < 4) : (isNil (tg4 x) = true ∨ shortL (tg4 x).data.toList 8 = true) ∧ (tg4 x).size ≤ 2 := by
  (have nil : isNil ⟨#[]⟩ = true := by unfold isNil; rw [nil_tl]; rfl); rcases (show x = 0 ∨ x = 1 ∨ x = 2 ∨ x = 3 by omega) with rfl | rfl | rfl | rfl
  · exact ⟨.inl nil, by decide⟩
  · exact ⟨.inl nil, by decide⟩
  · exact ⟨.inr (by decide), by decide⟩
  · exact ⟨.inr (by decide), by decide⟩
theorem turn_ok {x g : Int} (h0 : 0 ≤ x) (h1 : x < 3) (g0 : 1 ≤ g) (g1 : g ≤ 4) (k : Nat) (hk : 60 ≤ k) : ∃ r, damperref1_Rev.f k (wb3 x) g = some r ∧ (splitV r).2.2 = true ∧ r.size ≤ 16 := by
  have hs := wb3_ok h0 h1; have hsz : (wb3 x).data.toList.length = (wb3 x).size := rfl; rw [rrev_eq (wb3 x) (by omega) g k (by omega)]; refine ⟨_, rfl, ?_⟩; (have hrv : revL (wb3 x).data.toList g = (wb3 x).data.toList ++ 45 :: dig 6 g.toNat := by unfold revL; rw [if_pos ⟨hs.1, by omega, by omega⟩]); have hp := splitV_parts ⟨(revL (wb3 x).data.toList g).toArray⟩ (wb3 x).data.toList g.toNat ⟨hs.1, by omega, by omega, by rw [hrv]⟩; refine ⟨by rw [hp], ?_⟩; show (revL (wb3 x).data.toList g).length ≤ 16; rw [hrv]; have := dig_len 6 g.toNat; (have h3 : (wb3 x).data.toList.length ≤ 3 := by rcases (show x = 0 ∨ x = 1 ∨ x = 2 by omega) with rfl | rfl | rfl <;> decide); simp; omega
/-- Any numbers make an event that may be. -/
theorem make_ok (k : Nat) (hk : 60 ≤ k) (a0 a1 a2 a3 : Int) (a7 : ByteArray) (a8 a9 b0 b1 b3 : Int) (l5 : List Int) (hns : l5.length ≤ 9223372036854775807) :
    ∃ kd nm tg n dr c0 c1 c2 c3 c4 c5 rn rc ts ro, damperlaw3_Make.f k a0 a1 a2 a3 a7 a8 a9 b0 b1 b3 l5 = some (kd, nm, tg, n, dr, c0, c1, c2, c3, c4, c5, rn, rc, ts, ro) ∧ Made kd nm tg n dr c0 c1 c2 c3 c4 c5 rn rc ts ro := by
  have hw := wi_in a0 13 (by decide) (by decide); have a6 := wi_in a1 30 (by decide) (by decide); have b60 := wi_in a1 60 (by decide) (by decide); have b12 := wi_in a1 12 (by decide) (by decide); have b2 := wi_in a1 2 (by decide) (by decide); have b4 := wi_in a1 4 (by decide) (by decide); have b7 := wi_in a2 30 (by decide) (by decide); have b8 := wi_in a2 2147483648 (by decide) (by decide); have n3 := wi_in a3 3 (by decide) (by decide); have n6 := wi_in a3 6 (by decide) (by decide); have n4 := wi_in (wrap64 (Int.tdiv a3 3)) 4 (by decide) (by decide); have o3 := nm3_ok n3.1 n3.2; have w3 := wb3_ok n3.1 n3.2; have o6 := nm6_ok n6.1 n6.2; have t4 := tg4_ok n4.1 n4.2; obtain ⟨q1, q2, q3, q4, q5, q6, hcf, hcfg⟩ := config_ok a7 a8 a9 b0 b1 b3 a3; obtain ⟨nm, cf, l, roll, hrt, r1, ⟨_, r2⟩, r3, r4, r5, r6⟩ := gen_ok k (by omega) a3 l5 hns a2; obtain ⟨rv, hrv, b5, b6⟩ := turn_ok n3.1 n3.2 (show 1 ≤ 1 + wi a1 4 by omega) (by omega) k hk; (have nil : isNil ⟨#[]⟩ = true := by unfold isNil; rw [nil_tl]; rfl); (have a4 : cfgZ ⟨#[]⟩ 0 0 0 0 0 = true := by unfold cfgZ; rw [nil_tl]; rfl); (have a5 : bareV ⟨#[]⟩ ⟨#[]⟩ [] 0 = true := by unfold bareV; rw [nil]; rfl); unfold damperlaw3_Make.f; generalize wi a0 13 = kk at hw ⊢; rcases (show kk = 0 ∨ kk = 1 ∨ kk = 2 ∨ kk = 3 ∨ kk = 4 ∨ kk = 5 ∨ kk = 6 ∨ kk = 7 ∨ kk = 8 ∨ kk = 9 ∨ kk = 10 ∨ kk = 11 ∨ kk = 12 by omega) with rfl | rfl | rfl | rfl | rfl | rfl | rfl | rfl | rfl | rfl | rfl | rfl | rfl
  · rw [if_pos rfl, hcf]; exact ⟨_, _, _, _, _, _, _, _, _, _, _, _, _, _, _, rfl, ⟨by omega, by simp [extra, shp, zInt, zStr, nil, a5], fun _ => inB_of a6.1 (by omega), (by intro h; cases h), .inl nil, by decide, fun _ => hcfg, by omega, ⟨Nat.zero_le _, Nat.zero_le _, a6.1, by omega, fun _ => rfl⟩⟩⟩
  · rw [if_neg (by decide), if_pos rfl, hrt]; exact ⟨_, _, _, _, _, _, _, _, _, _, _, _, _, _, _, rfl, ⟨by omega, by simp [extra, shp, zInt, zStr, nil, a4], fun _ => inB_of a6.1 (by omega), (by intro h; cases h), .inl nil, by decide, by omega, fun _ => ⟨r1, r2, r3, r4, r5, r6⟩, ⟨Nat.zero_le _, Nat.zero_le _, a6.1, by omega, by omega⟩⟩⟩
  · iterate 2 rw [if_neg (by decide)]
    rw [if_pos rfl]; exact ⟨_, _, _, _, _, _, _, _, _, _, _, _, _, _, _, rfl, ⟨by omega, by simp [extra, shp, zInt, zStr, nil, a5, a4], fun _ => inB_of (a := 1) (b := 2) (by omega) (by omega), fun _ => o6.1, .inl nil, inB_of b7.1 (by omega), by omega, by omega, ⟨o6.2, Nat.zero_le _, by omega, by omega, fun _ => rfl⟩⟩⟩
  · iterate 3 rw [if_neg (by decide)]
    rw [if_pos rfl]; exact ⟨_, _, _, _, _, _, _, _, _, _, _, _, _, _, _, rfl, ⟨by omega, by simp [extra, shp, zInt, zStr, nil, a5, a4], fun _ => inB_of (a := 1) (b := 2147483647) (by omega) (by omega), fun _ => o3.1, t4.1, inB_of b8.1 (by omega), by omega, by omega, ⟨o3.2, t4.2, by omega, by omega, fun _ => rfl⟩⟩⟩
  · iterate 4 rw [if_neg (by decide)]
    rw [if_pos rfl]; exact ⟨_, _, _, _, _, _, _, _, _, _, _, _, _, _, _, rfl, ⟨by omega, by simp [extra, shp, zInt, zStr, nil, a5, a4], fun _ => inB_of (a := 1) (b := 2147483647) (by omega) (by omega), (by intro h; cases h), .inl nil, by decide, by omega, by omega, ⟨Nat.zero_le _, Nat.zero_le _, by omega, by omega, fun _ => rfl⟩⟩⟩
  · iterate 5 rw [if_neg (by decide)]
    rw [if_pos rfl]; exact ⟨_, _, _, _, _, _, _, _, _, _, _, _, _, _, _, rfl, ⟨by omega, by simp [extra, shp, zInt, zStr, nil, a5, a4], fun _ => inB_of (a := 1) (b := 2147483647) (by omega) (by omega), (by intro h; cases h), .inl nil, by decide, by omega, by omega, ⟨Nat.zero_le _, Nat.zero_le _, by omega, by omega, fun _ => rfl⟩⟩⟩
  · iterate 6 rw [if_neg (by decide)]
    rw [if_pos rfl]; exact ⟨_, _, _, _, _, _, _, _, _, _, _, _, _, _, _, rfl, ⟨by omega, by simp [extra, shp, zInt, zStr, nil, a5, a4], fun _ => inB_of (a := 1) (b := 2147483647) (by omega) (by omega), (by intro h; cases h), .inl nil, by decide, by omega, by omega, ⟨Nat.zero_le _, Nat.zero_le _, by omega, by omega, fun _ => rfl⟩⟩⟩
  · iterate 7 rw [if_neg (by decide)]
    rw [if_pos rfl]; exact ⟨_, _, _, _, _, _, _, _, _, _, _, _, _, _, _, rfl, ⟨by omega, by simp [extra, shp, zInt, zStr, nil, a5, a4], fun _ => inB_of (a := 1) (b := 2147483647) (by omega) (by omega), (by intro h; cases h), .inl nil, by decide, by omega, by omega, ⟨Nat.zero_le _, Nat.zero_le _, by omega, by omega, fun _ => rfl⟩⟩⟩
  · iterate 8 rw [if_neg (by decide)]
    rw [if_pos rfl]; exact ⟨_, _, _, _, _, _, _, _, _, _, _, _, _, _, _, rfl, ⟨by omega, by simp [extra, shp, zInt, zStr, nil, a5, a4], by (intro h; cases h), by (intro h; cases h), .inl nil, by decide, by omega, by omega, ⟨Nat.zero_le _, Nat.zero_le _, by omega, by omega, fun _ => rfl⟩⟩⟩
  · iterate 9 rw [if_neg (by decide)]
    rw [if_pos rfl]; exact ⟨_, _, _, _, _, _, _, _, _, _, _, _, _, _, _, rfl, ⟨by omega, by simp [extra, shp, zInt, zStr, nil, a5, a4], by (intro h; cases h), fun _ => w3.1, .inl nil, by decide, by omega, by omega, ⟨w3.2, Nat.zero_le _, by omega, by omega, fun _ => rfl⟩⟩⟩
  · iterate 10 rw [if_neg (by decide)]
    rw [if_pos rfl]; exact ⟨_, _, _, _, _, _, _, _, _, _, _, _, _, _, _, rfl, ⟨by omega, by simp [extra, shp, zInt, zStr, nil, a5, a4], by (intro h; cases h), fun _ => o3.1, .inl nil, by decide, by omega, by omega, ⟨o3.2, Nat.zero_le _, by omega, by omega, fun _ => rfl⟩⟩⟩
  · iterate 11 rw [if_neg (by decide)]
    rw [if_pos rfl, hrv]; exact ⟨_, _, _, _, _, _, _, _, _, _, _, _, _, _, _, rfl, ⟨by omega, by simp [extra, shp, zInt, zStr, nil, a5, a4], by (intro h; cases h), fun _ => b5, .inl nil, by decide, by omega, by omega, ⟨b6, Nat.zero_le _, by omega, by omega, fun _ => rfl⟩⟩⟩
  · iterate 12 rw [if_neg (by decide)]
    rw [if_pos rfl, hrv]; exact ⟨_, _, _, _, _, _, _, _, _, _, _, _, _, _, _, rfl, ⟨by omega, by simp [extra, shp, zInt, zStr, nil, a5, a4], by (intro h; cases h), fun _ => b5, .inl nil, by decide, by omega, by omega, ⟨b6, Nat.zero_le _, by omega, by omega, fun _ => rfl⟩⟩⟩

theorem takeC_app (a l : List Int) : takeC (a ++ l) false a.length = false := by
  unfold takeC; simp; omega
theorem takeV_app (a l : List Int) : takeV (a ++ l) false a.length = a := by
  unfold takeV; rw [takeC_app]; simp
theorem takeR_app (a l : List Int) : takeR (a ++ l) false a.length = l := by
  unfold takeR; rw [takeC_app]; simp
theorem num_push (a x : Int) (h0 : 0 ≤ a) (h1 : a < 16777216) (hx : 0 ≤ x ∧ x ≤ 255) : Go.bits .or .i64 (wrap64 (a * 256)) (wrap64 x) = a * 256 + x := by
  (have w : ∀ n : Int, 0 ≤ n → n ≤ 4294967295 → wrap64 n = n := fun n h0 h1 => by unfold wrap64; omega); rw [w x hx.1 (by omega), w (a * 256) (by omega) (by omega)]; exact bits_join .i64 63 (by decide) wraps63 8 _ _ (by omega) (by omega) (by omega) hx.1 (by omega) (by omega)
theorem rNum_one (x : Int) (l : List Int) (hx : 0 ≤ x ∧ x ≤ 255) : rNum 1 (x :: l, false) = (x, l, false) := by
  have h1 := takeV_app [x] l; have h2 := takeR_app [x] l; have h3 := takeC_app [x] l; simp only [List.length_singleton, List.singleton_append] at h1 h2 h3; unfold rNum; rw [h1, h2, h3]; simp only [numV, num_push 0 x (by decide) (by decide) hx]; simp
def fourL (n : Int) : List Int := [(n / 16777216) % 256, (n / 65536) % 256, (n / 256) % 256, n % 256]
theorem rNum_four (n : Int) (l : List Int) (h0 : 0 ≤ n) (h1 : n < 4294967296) : rNum 4 (fourL n ++ l, false) = (n, l, false) := by
  have e1 := takeV_app (fourL n) l; have e2 := takeR_app (fourL n) l; have e3 := takeC_app (fourL n) l; have e4 : (fourL n).length = 4 := rfl; rw [e4] at e1 e2 e3; unfold rNum; simp only [e1, e2, e3]; unfold fourL; simp only [numV]; rw [num_push 0 _ (by decide) (by decide) (by omega), num_push _ ((n / 65536) % 256) (by omega) (by omega) (by omega), num_push _ ((n / 256) % 256) (by omega) (by omega) (by omega), num_push _ (n % 256) (by omega) (by omega) (by omega)]
  congr 1
  omega
theorem bytesOf_bd (s : ByteArray) : ∀ y ∈ bytesOf s, 0 ≤ y ∧ y ≤ 255 := by
  intro y hy; simp only [bytesOf, List.mem_map] at hy; obtain ⟨b, _, rfl⟩ := hy; have := b.toNat_lt; omega
theorem str_bytes (s : ByteArray) : strOfNums (bytesOf s) = s := by
  have h : (strOfNums (bytesOf s)).data = s.data := by
    apply Array.ext'; rw [strOfNums_data, bytesOf, List.map_map]
    conv => rhs; rw [← List.map_id s.data.toList]
    apply List.map_congr_left; intro b _; simp
  cases s with
  | mk d =>
    generalize strOfNums (bytesOf ⟨d⟩) = x at h; cases x; simp only at h; rw [h]
theorem rText_ok (s : ByteArray) (l : List Int) (hs : s.size ≤ 255) : rText ((s.size : Int) :: (bytesOf s ++ l), false) = (s, l, false) := by
  have h1 := rNum_one (s.size : Int) (bytesOf s ++ l) ⟨by omega, by omega⟩; simp only [rNum, Prod.mk.injEq] at h1; obtain ⟨a1, a2, a3⟩ := h1
  have hb : byteN ((s.size : Int) :: (bytesOf s ++ l)) false = (bytesOf s).length := by
    unfold byteN; rw [a1, bytesOf_length]; simp
  unfold rText textV textR textC; simp only [a2, a3, hb, takeV_app, takeR_app, takeC_app, str_bytes]
def strL (s : ByteArray) : List Int := (s.size : Int) :: bytesOf s
theorem rText_str (s : ByteArray) (l : List Int) (hs : s.size ≤ 255) : rText (strL s ++ l, false) = (s, l, false) := rText_ok s l hs
def byteB (x : Int) : Prop := 0 ≤ x ∧ x ≤ 255
def tgtL (t : S39) : List Int := strL t.f0 ++ (strL t.f1 ++ [t.f2])
def tgtB (t : S39) : Prop := t.f0.size ≤ 255 ∧ t.f1.size ≤ 255 ∧ byteB t.f2
theorem rTgts_ok : ∀ (ts : List S39) (l : List Int) (acc : List S39), (∀ t ∈ ts, tgtB t) → rTgts ts.length (ts.flatMap tgtL ++ l, false) acc = (acc ++ ts, l, false)
  | [], l, acc, _ => by simp [rTgts]
  | t :: ts, l, acc, h => by
    obtain ⟨h0, h1, h2⟩ := h t (by simp); (have e : ((t :: ts).flatMap tgtL ++ l) = strL t.f0 ++ (strL t.f1 ++ (t.f2 :: (ts.flatMap tgtL ++ l))) := by simp [tgtL]); rw [e, List.length_cons, rTgts_step (rText_str t.f0 _ h0) (rText_str t.f1 _ h1) (rNum_one t.f2 _ h2), if_neg (by simp), rTgts_ok ts l _ (fun x hx => h x (by simp [hx]))]; simp
/-! Where it ends too early: a front that is not whole is cut. -/
theorem strL_len (s : ByteArray) : (strL s).length = s.size + 1 := by unfold strL; rw [List.length_cons, bytesOf_length]
theorem text_eq (l : List Int) (s : ByteArray) (hl : l.length ≤ 10000000) (hs : s.size ≤ 255) : event_text.f l s = some (l ++ strL s) := by
  unfold event_text.f strL; rw [if_pos (by omega), Option.bind_some, if_pos (by rw [List.length_append, List.length_singleton]; omega), show ((s.size : Int)) % 256 = s.size by omega]; simp
theorem rtext_eq (l : List Int) (s : ByteArray) (hl : l.length ≤ 10000000) (hs : s.size ≤ 255) : damperref3_text.f l s = some (l ++ strL s) := by
  unfold damperref3_text.f strL; rw [if_pos (by omega), Option.bind_some, if_pos (by rw [List.length_append, List.length_singleton]; omega), show ((s.size : Int)) % 256 = s.size by omega]; simp
theorem rfour_eq (l : List Int) (n : Int) (hl : l.length ≤ 10000000) : damperref3_four.f l n = some (l ++ fourL n) := by
  unfold damperref3_four.f fourL; rw [Option.bind_some, if_pos (by simp; omega)]
theorem lay_eq (k : Nat) (hk : 6 ≤ k) (l : List Int) (n : Int) (hl : l.length ≤ 10000000) : event_lay.f k l n 4 = some (l ++ fourL n) := by
  obtain ⟨k, rfl⟩ : ∃ j, k = j + 5 := ⟨k - 5, by omega⟩; (have w : ∀ z : Int, -10 ≤ z → z ≤ 100 → wrap64 z = z := fun z h0 h1 => by unfold wrap64; omega); unfold event_lay.f; rw [w (4 - 1) (by decide) (by decide), event_lay.l0, if_pos (by decide), w (8 * (4 - 1)) (by decide) (by decide), if_pos (by decide), if_pos (by omega), w (4 - 1 - 1) (by decide) (by decide)]; rw [event_lay.l0, if_pos (by decide), w (8 * (4 - 1 - 1)) (by decide) (by decide), if_pos (by decide), if_pos (by simp; omega), w (4 - 1 - 1 - 1) (by decide) (by decide)]; rw [event_lay.l0, if_pos (by decide), w (8 * (4 - 1 - 1 - 1)) (by decide) (by decide), if_pos (by decide), if_pos (by simp; omega), w (4 - 1 - 1 - 1 - 1) (by decide) (by decide)]; rw [event_lay.l0, if_pos (by decide), w (8 * (4 - 1 - 1 - 1 - 1)) (by decide) (by decide), if_pos (by decide), if_pos (by simp; omega), w (4 - 1 - 1 - 1 - 1 - 1) (by decide) (by decide)]; rw [event_lay.l0, if_neg (by decide)]; have e : ∀ (y : Int) (d : Int), shr .i64 n y = n / 2 ^ min y.toNat 64 := fun _ _ => rfl; unfold fourL; simp only [List.append_assoc, List.singleton_append, List.cons_append, List.nil_append]; rw [e _ 0, e _ 0, e _ 0, e _ 0]; simp
def cfgL (c0 : ByteArray) (c1 c2 c3 c4 c5 : Int) : List Int := strL c0 ++ [c1, c2, c3, c4, c5]
def rouL (rn rc : ByteArray) (ts : List S39) (ro : Int) : List Int := strL rn ++ (strL rc ++ (ro :: (ts.length : Int) :: ts.flatMap tgtL))
theorem config_eq (l : List Int) (c0 : ByteArray) (c1 c2 c3 c4 c5 : Int) (hl : l.length ≤ 1000000) (h0 : c0.size ≤ 255) (h1 : byteB c1) (h2 : byteB c2) (h3 : byteB c3) (h4 : byteB c4) (h5 : byteB c5) :
    event_config.f l c0 c1 c2 c3 c4 c5 = some (l ++ cfgL c0 c1 c2 c3 c4 c5) := by
  (have m : ∀ x : Int, byteB x → x % 256 = x := fun x h => by unfold byteB at h; omega); have hs := strL_len c0; unfold event_config.f cfgL; rw [text_eq l c0 (by omega) h0, Option.bind_some, Option.bind_some, m _ h1, m _ h2, m _ h3, m _ h4, m _ h5, if_pos (by rw [List.length_append, hs]; simp; omega)]; simp
theorem tgtL_len (t : S39) (h : tgtB t) : (tgtL t).length ≤ 513 := by
  unfold tgtL; rw [List.length_append, List.length_append, strL_len, strL_len]; have := h.1; have := h.2.1; simp; omega
theorem flat_len : ∀ ts : List S39, (∀ t ∈ ts, tgtB t) → (ts.flatMap tgtL).length ≤ 513 * ts.length
  | [], _ => by simp
  | t :: ts, h => by
    have h1 := tgtL_len t (h t (by simp)); have h2 := flat_len ts (fun x hx => h x (by simp [hx])); rw [List.flatMap_cons, List.length_append, List.length_cons]; omega
theorem route_l0_eq (ts : List S39) (hts : ∀ t ∈ ts, tgtB t) (hl : ts.length ≤ 100) : ∀ (m i k : Nat) (x : List Int), ts.length - i = m → i ≤ ts.length → m + 2 ≤ k → x.length ≤ 2000000 + 513 * i → event_route.l0 k x ts (ts.length : Int) (i : Int) = some (x ++ (ts.drop i).flatMap tgtL)
  | 0, i, k, x, hm, hi, hk, hx => by
    obtain ⟨k, rfl⟩ : ∃ j, k = j + 1 := ⟨k - 1, by omega⟩; rw [event_route.l0, if_neg (by omega), List.drop_eq_nil_of_le (by omega)]; simp
  | m + 1, i, k, x, hm, hi, hk, hx => by
    obtain ⟨k, rfl⟩ : ∃ j, k = j + 1 := ⟨k - 1, by omega⟩; (have hlt : i < ts.length := by omega); have ht := hts ts[i] (List.getElem_mem hlt)
    have e : rd_T39 ts (i : Int) = ts[i] := by
      show ts.getD (i : Int).toNat z39 = ts[i]; rw [Int.toNat_natCast, List.getD_eq_getElem?_getD, List.getElem?_eq_getElem hlt, Option.getD_some]
    have l0 := strL_len ts[i].f0; have l1 := strL_len ts[i].f1; have b0 := ht.1; have b1 := ht.2.1; have b2 := ht.2.2; (have hmod : ts[i].f2 % 256 = ts[i].f2 := by unfold byteB at b2; omega); rw [event_route.l0, if_pos (by omega), if_pos (by omega), if_pos (by omega), e, text_eq x _ (by omega) b0, Option.bind_some, text_eq _ _ (by rw [List.length_append]; omega) b1, Option.bind_some, Option.bind_some, hmod, if_pos (by rw [List.length_append, List.length_append]; simp; omega)]; rw [show wrap64 ((i : Int) + 1) = ((i + 1 : Nat) : Int) by unfold wrap64; omega, route_l0_eq ts hts hl m (i + 1) k _ (by omega) (by omega) (by omega) (by rw [List.length_append, List.length_append, List.length_append]; simp; omega), List.drop_eq_getElem_cons hlt, List.flatMap_cons]; simp only [tgtL, List.append_assoc, List.singleton_append, List.cons_append, List.nil_append]
theorem broute_eq (k : Nat) (l : List Int) (rn rc : ByteArray) (ts : List S39) (ro : Int) (hk : 110 ≤ k) (hl : l.length ≤ 1000000) (hn : rn.size ≤ 255) (hc : rc.size ≤ 255) (hts : ∀ t ∈ ts, tgtB t) (htl : ts.length ≤ 100) (hro : byteB ro) :
    event_route.f k l rn rc ts ro = some (l ++ rouL rn rc ts ro) := by
  have l0 := strL_len rn; have l1 := strL_len rc; (have m1 : ro % 256 = ro := by unfold byteB at hro; omega); (have m2 : (ts.length : Int) % 256 = ts.length := by omega); unfold event_route.f rouL; rw [text_eq l rn (by omega) hn, Option.bind_some, text_eq _ rc (by rw [List.length_append]; omega) hc, Option.bind_some, Option.bind_some, m1, m2, if_pos (by rw [List.length_append, List.length_append]; simp; omega)]; have := route_l0_eq ts hts htl ts.length 0 k (l ++ strL rn ++ strL rc ++ [ro, (ts.length : Int)]) (by omega) (by omega) (by omega) (by rw [List.length_append, List.length_append, List.length_append]; simp; omega); rw [show ((0 : Int)) = ((0 : Nat) : Int) from rfl, this]; simp
/-- What an event is made of may be told in bytes. -/
structure Fit (kd : Int) (nm tg : ByteArray) (n dr : Int) (c0 : ByteArray) (c1 c2 c3 c4 c5 : Int) (rn rc : ByteArray) (ts : List S39) (ro : Int) : Prop where
  kdF : byteB kd
  nmF : nm.size ≤ 255
  tgF : tg.size ≤ 255
  c0F : c0.size ≤ 255
  c1F : byteB c1
  c2F : byteB c2
  c3F : byteB c3
  c4F : byteB c4
  c5F : byteB c5
  rnF : rn.size ≤ 255
  rcF : rc.size ≤ 255
  tsF : ∀ t ∈ ts, tgtB t
  tlF : ts.length ≤ 100
  roF : byteB ro
def oL (b : Bool) (l : List Int) : List Int := if b = true then l else []
def bytesV (f1 f2 f3 f4 f5 f6 : Bool) (kd : Int) (nm tg : ByteArray) (n dr : Int) (c0 : ByteArray) (c1 c2 c3 c4 c5 : Int) (rn rc : ByteArray) (ts : List S39) (ro : Int) : List Int :=
  kd :: (oL f1 (fourL n) ++ (oL f2 (strL nm) ++ (oL f3 (strL tg) ++ (oL f4 (fourL dr) ++ (oL f5 (cfgL c0 c1 c2 c3 c4 c5) ++ oL f6 (rouL rn rc ts ro))))))
theorem b5_eq (k : Nat) (x : List Int) (hx : x.length ≤ 10000000) : event_Bytes.j5 (k + 1) x = some x := by
  rw [event_Bytes.j5]; unfold slices_Clone_byte_byte_66.f; rw [if_pos (by omega)]; rfl
theorem rou_len {rn rc : ByteArray} {ts : List S39} {ro : Int} (hn : rn.size ≤ 255) (hc : rc.size ≤ 255) (hts : ∀ t ∈ ts, tgtB t) (htl : ts.length ≤ 100) : (rouL rn rc ts ro).length ≤ 60000 := by
  have h1 := strL_len rn; have h2 := strL_len rc; have h3 := flat_len ts hts; unfold rouL; simp only [List.length_append, List.length_cons]; omega
theorem b4_eq {kd : Int} {nm tg : ByteArray} {n dr : Int} {c0 : ByteArray} {c1 c2 c3 c4 c5 : Int} {rn rc : ByteArray} {ts : List S39} {ro : Int} (F : Fit kd nm tg n dr c0 c1 c2 c3 c4 c5 rn rc ts ro) (k : Nat) (hk : 120 ≤ k) (x : List Int) (hx : x.length ≤ 600000) (f1 f2 f3 f4 f5 f6 : Bool) : event_Bytes.j4 k x kd nm tg n dr c0 c1 c2 c3 c4 c5 rn rc ts ro f1 f2 f3 f4 f5 f6 = some (x ++ oL f6 (rouL rn rc ts ro)) := by
  obtain ⟨k, rfl⟩ : ∃ j, k = j + 2 := ⟨k - 2, by omega⟩; have hl := rou_len (ro := ro) F.rnF F.rcF F.tsF F.tlF; rw [event_Bytes.j4]; unfold oL; cases f6
  · rw [if_neg (by decide), if_neg (by decide), b5_eq _ _ (by omega)]; simp
  · rw [if_pos rfl, if_pos rfl, broute_eq (k + 1) x rn rc ts ro (by omega) (by omega) F.rnF F.rcF F.tsF F.tlF F.roF, Option.bind_some, b5_eq _ _ (by rw [List.length_append]; omega)]
theorem b3_eq {kd : Int} {nm tg : ByteArray} {n dr : Int} {c0 : ByteArray} {c1 c2 c3 c4 c5 : Int} {rn rc : ByteArray} {ts : List S39} {ro : Int} (F : Fit kd nm tg n dr c0 c1 c2 c3 c4 c5 rn rc ts ro) (k : Nat) (hk : 121 ≤ k) (x : List Int) (hx : x.length ≤ 500000) (f1 f2 f3 f4 f5 f6 : Bool) : event_Bytes.j3 k x kd nm tg n dr c0 c1 c2 c3 c4 c5 rn rc ts ro f1 f2 f3 f4 f5 f6 = some (x ++ (oL f5 (cfgL c0 c1 c2 c3 c4 c5) ++ oL f6 (rouL rn rc ts ro))) := by
  obtain ⟨k, rfl⟩ : ∃ j, k = j + 1 := ⟨k - 1, by omega⟩; have hl := strL_len c0; have h0 := F.c0F; rw [event_Bytes.j3]; cases f5
  · rw [if_neg (by decide), b4_eq F _ (by omega) _ (by omega)]; simp [oL]
  · rw [if_pos rfl, config_eq _ _ _ _ _ _ _ (by omega) F.c0F F.c1F F.c2F F.c3F F.c4F F.c5F, Option.bind_some, b4_eq F _ (by omega) _ (by unfold cfgL; simp only [List.length_append, hl, List.length_cons, List.length_nil]; omega)]; simp [oL]
theorem b2_eq {kd : Int} {nm tg : ByteArray} {n dr : Int} {c0 : ByteArray} {c1 c2 c3 c4 c5 : Int} {rn rc : ByteArray} {ts : List S39} {ro : Int} (F : Fit kd nm tg n dr c0 c1 c2 c3 c4 c5 rn rc ts ro) (k : Nat) (hk : 122 ≤ k) (x : List Int) (hx : x.length ≤ 400000) (f1 f2 f3 f4 f5 f6 : Bool) : event_Bytes.j2 k x kd nm tg n dr c0 c1 c2 c3 c4 c5 rn rc ts ro f1 f2 f3 f4 f5 f6 = some (x ++ (oL f4 (fourL dr) ++ (oL f5 (cfgL c0 c1 c2 c3 c4 c5) ++ oL f6 (rouL rn rc ts ro)))) := by
  obtain ⟨k, rfl⟩ : ∃ j, k = j + 1 := ⟨k - 1, by omega⟩; rw [event_Bytes.j2]; cases f4
  · rw [if_neg (by decide), b3_eq F _ (by omega) _ (by omega)]; simp [oL]
  · rw [if_pos rfl, lay_eq _ (by omega) _ _ (by omega), Option.bind_some, b3_eq F _ (by omega) _ (by unfold fourL; simp only [List.length_append, List.length_cons, List.length_nil]; omega)]; simp [oL]
theorem b1_eq {kd : Int} {nm tg : ByteArray} {n dr : Int} {c0 : ByteArray} {c1 c2 c3 c4 c5 : Int} {rn rc : ByteArray} {ts : List S39} {ro : Int} (F : Fit kd nm tg n dr c0 c1 c2 c3 c4 c5 rn rc ts ro) (k : Nat) (hk : 123 ≤ k) (x : List Int) (hx : x.length ≤ 300000) (f1 f2 f3 f4 f5 f6 : Bool) : event_Bytes.j1 k x kd nm tg n dr c0 c1 c2 c3 c4 c5 rn rc ts ro f1 f2 f3 f4 f5 f6 = some (x ++ (oL f3 (strL tg) ++ (oL f4 (fourL dr) ++ (oL f5 (cfgL c0 c1 c2 c3 c4 c5) ++ oL f6 (rouL rn rc ts ro))))) := by
  obtain ⟨k, rfl⟩ : ∃ j, k = j + 1 := ⟨k - 1, by omega⟩; have hl := strL_len tg; have h0 := F.tgF; rw [event_Bytes.j1]; cases f3
  · rw [if_neg (by decide), b2_eq F _ (by omega) _ (by omega)]; simp [oL]
  · rw [if_pos rfl, text_eq _ _ (by omega) F.tgF, Option.bind_some, b2_eq F _ (by omega) _ (by simp only [List.length_append, hl]; omega)]; simp [oL]
theorem b0_eq {kd : Int} {nm tg : ByteArray} {n dr : Int} {c0 : ByteArray} {c1 c2 c3 c4 c5 : Int} {rn rc : ByteArray} {ts : List S39} {ro : Int} (F : Fit kd nm tg n dr c0 c1 c2 c3 c4 c5 rn rc ts ro) (k : Nat) (hk : 124 ≤ k) (x : List Int) (hx : x.length ≤ 200000) (f1 f2 f3 f4 f5 f6 : Bool) : event_Bytes.j0 k x kd nm tg n dr c0 c1 c2 c3 c4 c5 rn rc ts ro f1 f2 f3 f4 f5 f6 = some (x ++ (oL f2 (strL nm) ++ (oL f3 (strL tg) ++ (oL f4 (fourL dr) ++ (oL f5 (cfgL c0 c1 c2 c3 c4 c5) ++ oL f6 (rouL rn rc ts ro)))))) := by
  obtain ⟨k, rfl⟩ : ∃ j, k = j + 1 := ⟨k - 1, by omega⟩; have hl := strL_len nm; have h0 := F.nmF; rw [event_Bytes.j0]; cases f2
  · rw [if_neg (by decide), b1_eq F _ (by omega) _ (by omega)]; simp [oL]
  · rw [if_pos rfl, text_eq _ _ (by omega) F.nmF, Option.bind_some, b1_eq F _ (by omega) _ (by simp only [List.length_append, hl]; omega)]; simp [oL]
/-- What the program lays. -/
theorem bytes_eq {kd : Int} {nm tg : ByteArray} {n dr : Int} {c0 : ByteArray} {c1 c2 c3 c4 c5 : Int} {rn rc : ByteArray} {ts : List S39} {ro : Int} (F : Fit kd nm tg n dr c0 c1 c2 c3 c4 c5 rn rc ts ro) (k : Nat) (hk : 130 ≤ k) (f1 f2 f3 f4 f5 f6 f7 : Bool) (hs : event_shape.f k kd = some (f1, f2, f3, f4, f5, f6, f7)) : event_Bytes.f k kd nm tg n dr c0 c1 c2 c3 c4 c5 rn rc ts ro = some (bytesV f1 f2 f3 f4 f5 f6 kd nm tg n dr c0 c1 c2 c3 c4 c5 rn rc ts ro) := by
  (have hkd : kd % 256 = kd := by have := F.kdF; unfold byteB at this; omega); unfold event_Bytes.f bytesV; rw [hs, Option.bind_some, Option.bind_some, hkd]; dsimp only; cases f1
  · rw [if_neg (by simp), b0_eq F _ (by omega) _ (by simp)]; simp [oL]
  · rw [if_pos rfl, lay_eq _ (by omega) _ _ (by simp), Option.bind_some, b0_eq F _ (by omega) _ (by unfold fourL; simp)]; simp [oL]

theorem rIf_ok {α : Type} {b : Bool} {z v : α} {f : RS → α × RS} {L : List Int} (l : List Int) (hz : b = false → v = z) (hf : ∀ l, f (L ++ l, false) = (v, l, false)) : rIf b z f (oL b L ++ l, false) = (v, l, false) := by
  unfold rIf oL; cases b
  · rw [if_neg (by decide), if_neg (by decide), hz rfl]; rfl
  · rw [if_pos rfl, if_pos rfl, hf]
theorem rCfg_ok {c0 : ByteArray} {c1 c2 c3 c4 c5 : Int} (h0 : c0.size ≤ 255) (h1 : byteB c1) (h2 : byteB c2) (h3 : byteB c3) (h4 : byteB c4) (h5 : byteB c5) (l : List Int) : rCfg (cfgL c0 c1 c2 c3 c4 c5 ++ l, false) = ((c0, c1, c2, c3, c4, c5), l, false) := by
  unfold rCfg cfgL; simp only [List.append_assoc, List.cons_append, List.nil_append, rText_str _ _ h0, rNum_one _ _ h1, rNum_one _ _ h2, rNum_one _ _ h3, rNum_one _ _ h4, rNum_one _ _ h5]
theorem rRou_ok {rn rc : ByteArray} {ts : List S39} {ro : Int} (hn : rn.size ≤ 255) (hc : rc.size ≤ 255) (hts : ∀ t ∈ ts, tgtB t) (htl : ts.length ≤ 100) (hro : byteB ro) (l : List Int) : rRou (rouL rn rc ts ro ++ l, false) = ((rn, rc, ts, ro), l, false) := by
  unfold rRou rouL; simp only [List.append_assoc, List.cons_append, List.nil_append, rText_str _ _ hn, rText_str _ _ hc, rNum_one _ _ hro, rNum_one _ _ (show 0 ≤ (ts.length : Int) ∧ (ts.length : Int) ≤ 255 by omega), Int.toNat_natCast, rTgts_ok _ _ _ hts]
theorem fields_ok {kd : Int} {nm tg : ByteArray} {n dr : Int} {c0 : ByteArray} {c1 c2 c3 c4 c5 : Int} {rn rc : ByteArray} {ts : List S39} {ro : Int} (F : Fit kd nm tg n dr c0 c1 c2 c3 c4 c5 rn rc ts ro) (f1 f2 f3 f4 f5 f6 : Bool) (l : List Int)
    (hn : 0 ≤ n ∧ n < 4294967296) (hd : 0 ≤ dr ∧ dr < 4294967296) (z1 : f1 = false → n = 0) (z2 : f2 = false → nm = ⟨#[]⟩) (z3 : f3 = false → tg = ⟨#[]⟩) (z4 : f4 = false → dr = 0) (z5 : f5 = false → (c0, c1, c2, c3, c4, c5) = (⟨#[]⟩, 0, 0, 0, 0, 0)) (z6 : f6 = false → (rn, rc, ts, ro) = (⟨#[]⟩, ⟨#[]⟩, [], 0)) :
    rFields f1 f2 f3 f4 f5 f6 (oL f1 (fourL n) ++ (oL f2 (strL nm) ++ (oL f3 (strL tg) ++ (oL f4 (fourL dr) ++ (oL f5 (cfgL c0 c1 c2 c3 c4 c5) ++ (oL f6 (rouL rn rc ts ro) ++ l))))), false) = ⟨n, nm, tg, dr, (c0, c1, c2, c3, c4, c5), (rn, rc, ts, ro), (l, false)⟩ := by
  unfold rFields
  simp only [rIf_ok _ z1 (fun l => rNum_four n l hn.1 hn.2), rIf_ok _ z2 (fun l => rText_str nm l F.nmF), rIf_ok _ z3 (fun l => rText_str tg l F.tgF), rIf_ok _ z4 (fun l => rNum_four dr l hd.1 hd.2),
    rIf_ok _ z5 (fun l => rCfg_ok F.c0F F.c1F F.c2F F.c3F F.c4F F.c5F l), rIf_ok _ z6 (fun l => rRou_ok F.rnF F.rcF F.tsF F.tlF F.roF l)]
theorem isNil_eq {s : ByteArray} (h : isNil s = true) : s = ⟨#[]⟩ := by
  unfold isNil at h; (have h1 : s.toList = [] := by simpa using h); have h2 : s.data.toList = [] := by rw [← Lib.toList_data]; exact h1
  cases s with
  | mk d => cases d with
    | mk l => simp at h2; subst h2; rfl
theorem Made.fit {kd : Int} {nm tg : ByteArray} {n dr : Int} {c0 : ByteArray} {c1 c2 c3 c4 c5 : Int} {rn rc : ByteArray} {ts : List S39} {ro : Int} (M : Made kd nm tg n dr c0 c1 c2 c3 c4 c5 rn rc ts ro) : Fit kd nm tg n dr c0 c1 c2 c3 c4 c5 rn rc ts ro := by
  obtain ⟨s1, s2, s3, s4, s5⟩ := M.small; have hk := M.kind
  have cz : kd ≠ 1 → cfgZ c0 c1 c2 c3 c4 c5 = true := by
    intro hne; have hx := M.bare; unfold extra at hx; simp only [Bool.not_eq_false', Bool.and_eq_true, Bool.or_eq_true] at hx; rcases hx.2.2.2.2.1 with h | h
    · exfalso; rcases (show kd = 1 ∨ kd = 2 ∨ kd = 3 ∨ kd = 4 ∨ kd = 5 ∨ kd = 6 ∨ kd = 7 ∨ kd = 8 ∨ kd = 9 ∨ kd = 10 ∨ kd = 11 ∨ kd = 12 ∨ kd = 13 by omega) with rfl | rfl | rfl | rfl | rfl | rfl | rfl | rfl | rfl | rfl | rfl | rfl | rfl <;> first | exact hne rfl | exact absurd h (by decide)
    · exact h
  have rz : kd ≠ 2 → bareV rn rc ts ro = true := by
    intro hne; have hx := M.bare; unfold extra at hx; simp only [Bool.not_eq_false', Bool.and_eq_true, Bool.or_eq_true] at hx; rcases hx.2.2.2.2.2 with h | h
    · exfalso; rcases (show kd = 1 ∨ kd = 2 ∨ kd = 3 ∨ kd = 4 ∨ kd = 5 ∨ kd = 6 ∨ kd = 7 ∨ kd = 8 ∨ kd = 9 ∨ kd = 10 ∨ kd = 11 ∨ kd = 12 ∨ kd = 13 by omega) with rfl | rfl | rfl | rfl | rfl | rfl | rfl | rfl | rfl | rfl | rfl | rfl | rfl <;> first | exact hne rfl | exact absurd h (by decide)
    · exact h
  have hc : c0.size ≤ 255 ∧ byteB c1 ∧ byteB c2 ∧ byteB c3 ∧ byteB c4 ∧ byteB c5 := by
    unfold byteB; by_cases h1 : kd = 1
    · obtain ⟨⟨_, h⟩, _⟩ := M.cfg h1; have := M.cfg h1; omega
    · have h := cz h1; unfold cfgZ at h; simp only [Bool.and_eq_true, beq_iff_eq] at h; have h0 := isNil_eq (s := c0) (by unfold isNil; simpa using h.1); subst h0; have : (⟨#[]⟩ : ByteArray).size = 0 := rfl; omega
  have hr : rn.size ≤ 255 ∧ rc.size ≤ 255 ∧ ts.length ≤ 100 ∧ byteB ro := by
    unfold byteB; by_cases h2 : kd = 2
    · have := M.route h2; omega
    · have h := rz h2; unfold bareV at h; simp only [Bool.and_eq_true, beq_iff_eq] at h; have e1 := isNil_eq h.1; have e2 := isNil_eq h.2.1; subst e1 e2; have : (⟨#[]⟩ : ByteArray).size = 0 := rfl; omega
  have ht : ∀ t ∈ ts, tgtB t := by
    intro t h; have hz := M.tsz t h; refine ⟨by omega, by omega, ?_⟩; by_cases h2 : kd = 2
    · obtain ⟨_, _, _, _, hg, _⟩ := M.route h2; obtain ⟨i, hi, rfl⟩ := List.getElem_of_mem h; have := (hg i hi).2.2; unfold byteB; omega
    · rw [s5 h2] at h; cases h
  obtain ⟨q1, q2, q3, q4, q5, q6⟩ := hc; obtain ⟨r1, r2, r3, r4⟩ := hr; exact ⟨by unfold byteB; omega, by omega, by omega, q1, q2, q3, q4, q5, q6, r1, r2, ht, r3, r4⟩
theorem fourL_bys (n : Int) : Bys (fourL n) := by
  intro y hy; simp only [fourL, List.mem_cons, List.not_mem_nil, or_false] at hy; rcases hy with rfl | rfl | rfl | rfl <;> omega
theorem strL_bys {s : ByteArray} (h : s.size ≤ 255) : Bys (strL s) := by
  intro y hy; simp only [strL, List.mem_cons] at hy; rcases hy with rfl | hy
  · omega
  · exact bytesOf_bd s y hy
theorem oL_bys {b : Bool} {l : List Int} (h : Bys l) : Bys (oL b l) := by
  unfold oL; cases b
  · intro y hy; simp at hy
  · exact h
theorem bys_app {a b : List Int} (ha : Bys a) (hb : Bys b) : Bys (a ++ b) := by
  intro y hy; rcases List.mem_append.1 hy with h | h
  · exact ha y h
  · exact hb y h
theorem bytesV_bys {kd : Int} {nm tg : ByteArray} {n dr : Int} {c0 : ByteArray} {c1 c2 c3 c4 c5 : Int} {rn rc : ByteArray} {ts : List S39} {ro : Int} (F : Fit kd nm tg n dr c0 c1 c2 c3 c4 c5 rn rc ts ro) (f1 f2 f3 f4 f5 f6 : Bool) : Bys (bytesV f1 f2 f3 f4 f5 f6 kd nm tg n dr c0 c1 c2 c3 c4 c5 rn rc ts ro) := by
  have hc : Bys (cfgL c0 c1 c2 c3 c4 c5) := by
    refine bys_app (strL_bys F.c0F) ?_; intro y hy; simp only [List.mem_cons, List.not_mem_nil, or_false] at hy; rcases hy with rfl | rfl | rfl | rfl | rfl
    · exact F.c1F
    · exact F.c2F
    · exact F.c3F
    · exact F.c4F
    · exact F.c5F
  have hr : Bys (rouL rn rc ts ro) := by
    refine bys_app (strL_bys F.rnF) (bys_app (strL_bys F.rcF) ?_); intro y hy; simp only [List.mem_cons, List.mem_flatMap] at hy; rcases hy with rfl | rfl | ⟨t, ht, hy⟩
    · exact F.roF
    · have := F.tlF; omega
    · have h := F.tsF t ht; refine bys_app (strL_bys h.1) (bys_app (strL_bys h.2.1) ?_) y hy; intro y hy; simp only [List.mem_cons, List.not_mem_nil, or_false] at hy; rw [hy]; exact h.2.2
  have := bys_app (oL_bys (b := f1) (fourL_bys n)) (bys_app (oL_bys (b := f2) (strL_bys F.nmF)) (bys_app (oL_bys (b := f3) (strL_bys F.tgF)) (bys_app (oL_bys (b := f4) (fourL_bys dr)) (bys_app (oL_bys (b := f5) hc) (oL_bys (b := f6) hr))))); intro y hy; rcases List.mem_cons.1 hy with rfl | hy
  · exact F.kdF
  · exact this y hy
theorem oL_len {b : Bool} {l : List Int} {n : Nat} (h : l.length ≤ n) : (oL b l).length ≤ n := by
  unfold oL; cases b
  · simp
  · exact h
theorem bytesV_len {kd : Int} {nm tg : ByteArray} {n dr : Int} {c0 : ByteArray} {c1 c2 c3 c4 c5 : Int} {rn rc : ByteArray} {ts : List S39} {ro : Int} (F : Fit kd nm tg n dr c0 c1 c2 c3 c4 c5 rn rc ts ro) (f1 f2 f3 f4 f5 f6 : Bool) : (bytesV f1 f2 f3 f4 f5 f6 kd nm tg n dr c0 c1 c2 c3 c4 c5 rn rc ts ro).length ≤ 100000 := by
  have h1 := oL_len (b := f1) (show (fourL n).length ≤ 4 from Nat.le_refl _); have h2 := oL_len (b := f2) (show (strL nm).length ≤ 256 by rw [strL_len]; have := F.nmF; omega); have h3 := oL_len (b := f3) (show (strL tg).length ≤ 256 by rw [strL_len]; have := F.tgF; omega); have h4 := oL_len (b := f4) (show (fourL dr).length ≤ 4 from Nat.le_refl _); have h5 := oL_len (b := f5) (show (cfgL c0 c1 c2 c3 c4 c5).length ≤ 261 by unfold cfgL; rw [List.length_append, strL_len]; have := F.c0F; simp; omega); have h6 := oL_len (b := f6) (rou_len (ro := ro) F.rnF F.rcF F.tsF F.tlF); unfold bytesV; simp only [List.length_cons, List.length_append]; omega
/-- What is not of the kind is nothing. -/
theorem Made.zeros {kd : Int} {nm tg : ByteArray} {n dr : Int} {c0 : ByteArray} {c1 c2 c3 c4 c5 : Int} {rn rc : ByteArray} {ts : List S39} {ro : Int} (M : Made kd nm tg n dr c0 c1 c2 c3 c4 c5 rn rc ts ro) : ((shp kd).1 = false → n = 0) ∧ ((shp kd).2.1 = false → nm = ⟨#[]⟩) ∧ ((shp kd).2.2.1 = false → tg = ⟨#[]⟩) ∧ ((shp kd).2.2.2.1 = false → dr = 0) ∧ ((shp kd).2.2.2.2.1 = false → (c0, c1, c2, c3, c4, c5) = (⟨#[]⟩, 0, 0, 0, 0, 0)) ∧ ((shp kd).2.2.2.2.2.1 = false → (rn, rc, ts, ro) = (⟨#[]⟩, ⟨#[]⟩, [], 0)) := by
  have hx := M.bare; unfold extra at hx; generalize shp kd = s at hx ⊢; obtain ⟨s1, s2, s3, s4, s5, s6, s7⟩ := s; simp only [Bool.not_eq_false', Bool.and_eq_true, zInt, zStr, Bool.or_eq_true, beq_iff_eq] at hx; obtain ⟨h1, h2, h3, h4, h5, h6⟩ := hx; refine ⟨fun e => ?_, fun e => ?_, fun e => ?_, fun e => ?_, fun e => ?_, fun e => ?_⟩
  · exact h1.resolve_left (by simp_all)
  · exact isNil_eq (h2.resolve_left (by simp_all))
  · exact isNil_eq (h3.resolve_left (by simp_all))
  · exact h4.resolve_left (by simp_all)
  · have h := h5.resolve_left (by simp_all); unfold cfgZ at h; simp only [Bool.and_eq_true, beq_iff_eq] at h; obtain ⟨g0, rfl, rfl, rfl, rfl, rfl⟩ := h; rw [isNil_eq (s := c0) (by unfold isNil; simpa using g0)]
  · have h := h6.resolve_left (by simp_all); unfold bareV at h; simp only [Bool.and_eq_true, beq_iff_eq] at h; obtain ⟨g0, g1, rfl, g2⟩ := h; rw [isNil_eq g0, isNil_eq g1, List.length_eq_zero_iff.1 g2]
theorem parse_ok {kd : Int} {nm tg : ByteArray} {n dr : Int} {c0 : ByteArray} {c1 c2 c3 c4 c5 : Int} {rn rc : ByteArray} {ts : List S39} {ro : Int} (M : Made kd nm tg n dr c0 c1 c2 c3 c4 c5 rn rc ts ro) (k : Nat) (hk : 30 ≤ k) : event_Parse.f k (bytesV (shp kd).1 (shp kd).2.1 (shp kd).2.2.1 (shp kd).2.2.2.1 (shp kd).2.2.2.2.1 (shp kd).2.2.2.2.2.1 kd nm tg n dr c0 c1 c2 c3 c4 c5 rn rc ts ro) = some (kd, nm, tg, n, dr, c0, c1, c2, c3, c4, c5, rn, rc, ts, ro, 0) := by
  have F := M.fit; obtain ⟨z1, z2, z3, z4, z5, z6⟩ := M.zeros
  have hd : 0 ≤ dr ∧ dr < 4294967296 := by
    have := M.draw; unfold inB at this; simp at this; omega
  (have hn : 0 ≤ n ∧ n < 4294967296 := by have := M.small; omega); have e := fields_ok F (shp kd).1 (shp kd).2.1 (shp kd).2.2.1 (shp kd).2.2.2.1 (shp kd).2.2.2.2.1 (shp kd).2.2.2.2.2.1 [] hn hd z1 z2 z3 z4 z5 z6; rw [List.append_nil] at e
  have hsh : event_shape.f k kd = some (shp kd) := by
    obtain ⟨k, rfl⟩ : ∃ j, k = j + 2 := ⟨k - 2, by omega⟩; exact shp_eq k kd
  have hck := chk_kind M.kind; unfold event_Parse.f; rw [if_pos (bys_isBys (bytesV_bys F _ _ _ _ _ _))]; unfold bytesV; rw [rNum_one kd _ F.kdF]; simp only; rw [hsh, Option.bind_some, if_neg (by simp), hck, if_neg (by simp), e]; unfold pEnd; rw [if_neg (by simp), if_neg (by simp)]; simp only; rw [chk_eq k (by omega) _ _ _ _ _ _ _ _ _ _ _ _ _ _ _ (by have := M.small; omega) (fun t ht => by have := M.tsz t ht; omega), Option.bind_some, M.ok, if_pos rfl]
theorem rroute_l0_eq (kd : Int) (nm tg : ByteArray) (n dr : Int) (c0 : ByteArray) (c1 c2 c3 c4 c5 : Int) (rn rc : ByteArray) (ro : Int) (ts : List S39) (hts : ∀ t ∈ ts, tgtB t) (hl : ts.length ≤ 100) : ∀ (m i k : Nat) (x : List Int), ts.length - i = m → i ≤ ts.length → m + 2 ≤ k → x.length ≤ 2000000 + 513 * i → damperref3_Bytes.l0 k x (i : Int) kd nm tg n dr c0 c1 c2 c3 c4 c5 rn rc ts ro = some (x ++ (ts.drop i).flatMap tgtL)
  | 0, i, k, x, hm, hi, hk, hx => by
    obtain ⟨k, rfl⟩ : ∃ j, k = j + 1 := ⟨k - 1, by omega⟩; rw [damperref3_Bytes.l0, if_neg (by omega), List.drop_eq_nil_of_le (by omega)]; simp
  | m + 1, i, k, x, hm, hi, hk, hx => by
    obtain ⟨k, rfl⟩ : ∃ j, k = j + 1 := ⟨k - 1, by omega⟩; (have hlt : i < ts.length := by omega); have ht := hts ts[i] (List.getElem_mem hlt)
    have e : rd_T39 ts (i : Int) = ts[i] := by
      show ts.getD (i : Int).toNat z39 = ts[i]; rw [Int.toNat_natCast, List.getD_eq_getElem?_getD, List.getElem?_eq_getElem hlt, Option.getD_some]
    have l0 := strL_len ts[i].f0; have l1 := strL_len ts[i].f1; have b0 := ht.1; have b1 := ht.2.1; have b2 := ht.2.2; (have hmod : ts[i].f2 % 256 = ts[i].f2 := by unfold byteB at b2; omega); rw [damperref3_Bytes.l0, if_pos (by omega), if_pos (by omega), e, rtext_eq x _ (by omega) b0, Option.bind_some, rtext_eq _ _ (by rw [List.length_append]; omega) b1, Option.bind_some, Option.bind_some, hmod, if_pos (by rw [List.length_append, List.length_append]; simp; omega)]; rw [show wrap64 ((i : Int) + 1) = ((i + 1 : Nat) : Int) by unfold wrap64; omega, rroute_l0_eq kd nm tg n dr c0 c1 c2 c3 c4 c5 rn rc ro ts hts hl m (i + 1) k _ (by omega) (by omega) (by omega) (by rw [List.length_append, List.length_append, List.length_append]; simp; omega), List.drop_eq_getElem_cons hlt, List.flatMap_cons]; simp only [tgtL, List.append_assoc, List.singleton_append, List.cons_append, List.nil_append]
/-- The document lays the same. -/
theorem rbytes_eq {kd : Int} {nm tg : ByteArray} {n dr : Int} {c0 : ByteArray} {c1 c2 c3 c4 c5 : Int} {rn rc : ByteArray} {ts : List S39} {ro : Int} (F : Fit kd nm tg n dr c0 c1 c2 c3 c4 c5 rn rc ts ro) (hkd : 1 ≤ kd ∧ kd ≤ 13) (k : Nat) (hk : 130 ≤ k) : damperref3_Bytes.f k kd nm tg n dr c0 c1 c2 c3 c4 c5 rn rc ts ro = some (bytesV (shp kd).1 (shp kd).2.1 (shp kd).2.2.1 (shp kd).2.2.2.1 (shp kd).2.2.2.2.1 (shp kd).2.2.2.2.2.1 kd nm tg n dr c0 c1 c2 c3 c4 c5 rn rc ts ro) := by
  (have hm : kd % 256 = kd := by omega); (have m : ∀ x : Int, byteB x → x % 256 = x := fun x h => by unfold byteB at h; omega); have hn := F.nmF; have ht := F.tgF; have h0 := F.c0F; have hrn := F.rnF; have hrc := F.rcF; have f4 : ∀ z, (fourL z).length = 4 := fun _ => rfl; obtain ⟨k, rfl⟩ : ∃ j, k = j + 2 := ⟨k - 2, by omega⟩; unfold damperref3_Bytes.f bytesV; rw [Option.bind_some, hm]; rcases (show kd = 1 ∨ kd = 2 ∨ kd = 3 ∨ kd = 4 ∨ kd = 5 ∨ kd = 6 ∨ kd = 7 ∨ kd = 8 ∨ kd = 9 ∨ kd = 10 ∨ kd = 11 ∨ kd = 12 ∨ kd = 13 by omega) with rfl | rfl | rfl | rfl | rfl | rfl | rfl | rfl | rfl | rfl | rfl | rfl | rfl
  · rw [if_pos rfl, rfour_eq _ _ (by simp), Option.bind_some, rtext_eq _ _ (by simp [f4]) F.c0F, Option.bind_some, Option.bind_some, m _ F.c1F, m _ F.c2F, m _ F.c3F, m _ F.c4F, m _ F.c5F, if_pos (by simp [f4, strL_len]; omega)]; simp [shp, oL, cfgL]
  · have htl := F.tlF; (have m2 : (ts.length : Int) % 256 = ts.length := by omega); rw [if_neg (by decide), if_pos rfl, rfour_eq _ _ (by simp), Option.bind_some, rtext_eq _ _ (by simp [f4]) F.rnF, Option.bind_some, rtext_eq _ _ (by simp [f4, strL_len]; omega) F.rcF, Option.bind_some, Option.bind_some, m _ F.roF, m2, if_pos (by simp [f4, strL_len]; omega)]; have := rroute_l0_eq 2 nm tg n dr c0 c1 c2 c3 c4 c5 rn rc ro ts F.tsF htl ts.length 0 (k + 2) ([2] ++ fourL n ++ strL rn ++ strL rc ++ [ro, (ts.length : Int)]) (by omega) (by omega) (by omega) (by simp [f4, strL_len]; omega); rw [show ((0 : Int)) = ((0 : Nat) : Int) from rfl]; rw [show [(2 : Int)] ++ fourL n = [2] ++ fourL n from rfl] at this; rw [this]; simp [shp, oL, rouL]
  · rw [if_neg (by decide), if_neg (by decide), if_pos rfl, rfour_eq _ _ (by simp), Option.bind_some, rtext_eq _ _ (by simp [f4]) F.nmF, Option.bind_some, rfour_eq _ _ (by simp [f4, strL_len]; omega), Option.bind_some]; simp [shp, oL]
  · rw [if_neg (by decide), if_neg (by decide), if_neg (by decide), if_pos rfl, rfour_eq _ _ (by simp), Option.bind_some, rtext_eq _ _ (by simp [f4]) F.nmF, Option.bind_some, rtext_eq _ _ (by simp [f4, strL_len]; omega) F.tgF, Option.bind_some, rfour_eq _ _ (by simp [f4, strL_len]; omega), Option.bind_some]; simp [shp, oL]
  · rw [if_neg (by decide), if_neg (by decide), if_neg (by decide), if_neg (by decide), if_pos rfl, damperref3_Bytes.j1, if_pos (by decide), rfour_eq _ _ (by simp), Option.bind_some]; simp [shp, oL]
  · rw [if_neg (by decide), if_neg (by decide), if_neg (by decide), if_neg (by decide), if_neg (by decide), if_pos rfl, damperref3_Bytes.j1, if_pos (by decide), rfour_eq _ _ (by simp), Option.bind_some]; simp [shp, oL]
  · rw [if_neg (by decide), if_neg (by decide), if_neg (by decide), if_neg (by decide), if_neg (by decide), if_neg (by decide), if_pos rfl, damperref3_Bytes.j1, if_pos (by decide), rfour_eq _ _ (by simp), Option.bind_some]; simp [shp, oL]
  · rw [if_neg (by decide), if_neg (by decide), if_neg (by decide), if_neg (by decide), if_neg (by decide), if_neg (by decide), if_neg (by decide), damperref3_Bytes.j1, if_pos (by decide), rfour_eq _ _ (by simp), Option.bind_some]; simp [shp, oL]
  · rw [if_neg (by decide), if_neg (by decide), if_neg (by decide), if_neg (by decide), if_neg (by decide), if_neg (by decide), if_neg (by decide), damperref3_Bytes.j1, if_neg (by decide), if_neg (by decide), if_neg (by decide), if_neg (by decide), damperref3_Bytes.j2, if_neg (by decide)]; simp [shp, oL]
  · rw [if_neg (by decide), if_neg (by decide), if_neg (by decide), if_neg (by decide), if_neg (by decide), if_neg (by decide), if_neg (by decide), damperref3_Bytes.j1, if_neg (by decide), if_pos rfl, damperref3_Bytes.j2, if_pos (by decide), rtext_eq _ _ (by simp) F.nmF, Option.bind_some]; simp [shp, oL]
  · rw [if_neg (by decide), if_neg (by decide), if_neg (by decide), if_neg (by decide), if_neg (by decide), if_neg (by decide), if_neg (by decide), damperref3_Bytes.j1, if_neg (by decide), if_neg (by decide), if_pos rfl, damperref3_Bytes.j2, if_pos (by decide), rtext_eq _ _ (by simp) F.nmF, Option.bind_some]; simp [shp, oL]
  · rw [if_neg (by decide), if_neg (by decide), if_neg (by decide), if_neg (by decide), if_neg (by decide), if_neg (by decide), if_neg (by decide), damperref3_Bytes.j1, if_neg (by decide), if_neg (by decide), if_neg (by decide), if_pos rfl, damperref3_Bytes.j2, if_pos (by decide), rtext_eq _ _ (by simp) F.nmF, Option.bind_some]; simp [shp, oL]
  · rw [if_neg (by decide), if_neg (by decide), if_neg (by decide), if_neg (by decide), if_neg (by decide), if_neg (by decide), if_neg (by decide), damperref3_Bytes.j1, if_neg (by decide), if_neg (by decide), if_neg (by decide), if_neg (by decide), damperref3_Bytes.j2, if_pos (by decide), rtext_eq _ _ (by simp) F.nmF, Option.bind_some]; simp [shp, oL]
theorem rsroute_l0 (rn rc : ByteArray) (ts : List S39) (ro : Int) (hl : ts.length ≤ 1000) : ∀ (m i k : Nat), ts.length - i = m → i ≤ ts.length → m + 2 ≤ k → damperref2_SameRoute.l0 k (i : Int) rn rc ts ro rn rc ts ro = some true
  | 0, i, k, hm, hi, hk => by
    obtain ⟨k, rfl⟩ : ∃ j, k = j + 1 := ⟨k - 1, by omega⟩; rw [damperref2_SameRoute.l0, if_neg (by omega)]
  | m + 1, i, k, hm, hi, hk => by
    obtain ⟨k, rfl⟩ : ∃ j, k = j + 1 := ⟨k - 1, by omega⟩; rw [damperref2_SameRoute.l0, if_pos (by omega), if_pos (by omega), if_pos (by omega), if_neg (by simp), show wrap64 ((i : Int) + 1) = ((i + 1 : Nat) : Int) by unfold wrap64; omega, rsroute_l0 rn rc ts ro hl m (i + 1) k (by omega) (by omega) (by omega)]
/-- An event is the same as itself. -/
theorem rsame_self (k : Nat) (kd : Int) (nm tg : ByteArray) (n dr : Int) (c0 : ByteArray) (c1 c2 c3 c4 c5 : Int) (rn rc : ByteArray) (ts : List S39) (ro : Int) (hl : ts.length ≤ 100) (hk : 120 ≤ k) :
    damperref3_Same.f k kd nm tg n dr c0 c1 c2 c3 c4 c5 rn rc ts ro kd nm tg n dr c0 c1 c2 c3 c4 c5 rn rc ts ro = some true := by
  obtain ⟨k, rfl⟩ : ∃ j, k = j + 1 := ⟨k - 1, by omega⟩; have := rsroute_l0 rn rc ts ro (by omega) ts.length 0 k (by omega) (by omega) (by omega); unfold damperref3_Same.f damperref2_SameRoute.f; rw [if_pos rfl, if_pos rfl, if_pos rfl, if_pos rfl, if_pos rfl, if_pos (by simp), if_pos rfl, if_pos rfl, if_pos rfl, damperref2_SameRoute.j0, if_neg (by simp)]; rw [show ((0 : Int)) = ((0 : Nat) : Int) from rfl, this]; rfl

end Go.Proofs.YtalpoojepffldaaDoor.Plain
