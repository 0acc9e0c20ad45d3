/- Plain laws, as far as one statement asks them. -/
import Derived.Test.YtalpoojepffldaaDoorMax0
import Derived.Test.YtalpoojepffldaaDoorPa
import Derived.Test.YtalpoojepffldaaDoorPb
import Derived.Test.YtalpoojepffldaaDoorPc
import Derived.Test.YtalpoojepffldaaDoorPd
import Derived.Test.YtalpoojepffldaaDoorPe
import Derived.Test.YtalpoojepffldaaDoorMax0
import Derived.Lib.IndexBytes
import Derived.Lib.ItoaLen
import Derived.Lib.PathFns
import Derived.Test.YtalpoojepffldaaDoorMka
import Derived.Test.YtalpoojepffldaaDoorRda
namespace Go.Proofs.YtalpoojepffldaaDoor.Plain
open Go.Proofs.YtalpoojepffldaaDoor.Ma Go.Proofs.YtalpoojepffldaaDoorW.PrintLast Go.Proofs.YtalpoojepffldaaDoorW.PrintWords Go.RowKit
set_option linter.unusedVariables false
set_option linter.unusedSimpArgs false

theorem name_eq (s : ByteArray) : label_Name.f s = some (shortL s.data.toList 16) := rfl
theorem tag_eq (s : ByteArray) : label_Tag.f s = some (shortL s.data.toList 8) := rfl

/-- The digits of a number, by fuel. -/
def dig : Nat → Nat → List UInt8
  | 0, _ => []
  | k + 1, u => if u < 10 then [UInt8.ofNat (48 + u)] else dig k (u / 10) ++ [UInt8.ofNat (48 + u % 10)]
theorem dig_eq : ∀ (k u : Nat), u < 10 ^ (k + 1) → Lib.decDigits u = dig (k + 1) u
  | k, u, h => by
    rw [Lib.decDigits, dig]; by_cases hu : u < 10
    · rw [dif_pos hu, if_pos hu]
    · rw [dif_neg hu, if_neg hu]
      cases k with
      | zero => exact absurd h (by omega)
      | succ j => rw [dig_eq j (u / 10) (by rw [Nat.pow_succ] at h; omega)]
theorem itoa_dig (g : Int) (h0 : 0 ≤ g) (h1 : g ≤ 999999) : Lib.itoa g = dig 6 g.toNat := by
  unfold Lib.itoa; rw [if_neg (by omega), dig_eq 5 g.toNat (by omega)]
theorem dig_len : ∀ (k u : Nat), (dig k u).length ≤ k
  | 0, _ => by simp [dig]
  | k + 1, u => by
    rw [dig]
    split
    · simp
    · have := dig_len k (u / 10); simp; omega

/-- A revision's name, in closed form. -/
def revL (l : List UInt8) (g : Int) : List UInt8 := if shortL l 16 = true ∧ 1 ≤ g ∧ g ≤ 999999 then l ++ 45 :: dig 6 g.toNat else []
theorem short_le {l : List UInt8} {n : Int} (h : shortL l n = true) : (l.length : Int) ≤ n := by
  simp [shortL] at h; omega
theorem ba_ext {a b : ByteArray} (h : a.data.toList = b.data.toList) : a = b := by
  cases a; cases b; congr 1; exact Array.toList_inj.1 h
theorem rev_eq (s : ByteArray) (g : Int) (k : Nat) : label_Rev.f (k + 1) s g = some ⟨(revL s.data.toList g).toArray⟩ := by
  unfold label_Rev.f; rw [name_eq, Option.bind_some]; unfold revL; by_cases h1 : shortL s.data.toList 16 = true
  · rw [if_pos h1]; by_cases h2 : g < 1
    · rw [if_pos h2, if_neg (by omega)]; rfl
    · rw [if_neg h2]; by_cases h3 : g > 999999
      · rw [decide_eq_true h3, if_neg (by omega)]; rfl
      · rw [decide_eq_false h3, if_pos ⟨h1, by omega, by omega⟩]; have hl := short_le h1; have hz : s.size = s.data.toList.length := rfl; have hi := dig_len 6 g.toNat; rw [label_Rev.j0, if_neg (by decide), if_pos (by omega)]; unfold strconv_Itoa_91.f; rw [if_pos (by omega), Option.bind_some, itoa_dig g (by omega) (by omega), if_pos]
        · congr 1
          apply ba_ext; simp
        · (have e : (s ++ (⟨#[45]⟩ : ByteArray)).size = s.size + 1 := by rw [ByteArray.size_append]; rfl); (have e2 : (⟨(dig 6 g.toNat).toArray⟩ : ByteArray).size = (dig 6 g.toNat).length := by simp [ByteArray.size]); rw [e, e2]; omega
  · rw [if_neg h1, if_neg (fun h => h1 h.1)]; rfl

/-- How a text is parted: at its last '-'. -/
def splitL (l : List UInt8) (i : Nat) : ByteArray × Int × Bool :=
  match Lib.atoiAll (l.drop (i + 1)) with
  | .ok v => if revL (l.take i) v = l then (⟨(l.take i).toArray⟩, v, true) else (⟨#[]⟩, 0, false)
  | _ => (⟨#[]⟩, 0, false)
theorem take_ba (s : ByteArray) (i : Nat) : (s.extract 0 i) = ⟨(s.data.toList.take i).toArray⟩ := by
  apply ba_ext; rw [Lib.extract_data]; simp
theorem splitAt_eq (s : ByteArray) (i : Nat) : splitAt s i = some (splitL s.data.toList i) := by
  unfold splitAt splitL; rw [Lib.extract_to_end]; rcases Lib.atoiAll (s.data.toList.drop (i + 1)) with v | _ | _
  · simp only []; rw [rev_eq _ _ 0, Option.bind_some, Lib.toList_data, Lib.toList_data, take_ba]; by_cases h : revL (s.data.toList.take i) v = s.data.toList
    · rw [if_pos (by simpa using h), if_pos h]
    · rw [if_neg (by simpa using h), if_neg h]
  · rfl
  · rfl
def splitV (s : ByteArray) : ByteArray × Int × Bool := if Lib.lastIndexByte s 45 < 0 then (⟨#[]⟩, 0, false) else splitL s.data.toList (Lib.lastIndexByte s 45).toNat
theorem split_eq (s : ByteArray) (h : s.size ≤ 140737488351232) : label_Split.f s = some (splitV s) := by
  unfold label_Split.f splitV; rw [if_pos h]; by_cases h2 : Lib.lastIndexByte s 45 < 0
  · rw [if_pos h2, if_pos h2]
  · rw [if_neg h2, if_neg h2, splitAt_eq]
theorem w64_small (z : Int) (h0 : -9223372036854775808 ≤ z) (h1 : z < 9223372036854775808) : wrap64 z = z := by unfold wrap64; omega
/-- What 'within' answers lies within. -/
theorem wi_in (a b : Int) (h0 : 0 < b) (h1 : b ≤ 9223372036854775807) : 0 ≤ wi a b ∧ wi a b < b := by
  have h := wi_bd (a := a) (b := b) (j := wi a b) rfl h0 h1; omega

theorem bt_list (s : ByteArray) (i : Nat) (h : i < s.data.toList.length) : bt s (i : Int) = ((s.data.toList[i]'h).toNat : Int) := by
  have h2 : ((i : Int).toNat) < s.size := h; unfold bt; rw [dif_pos h2]; rfl
theorem rsign_eq (k : Nat) (b : UInt8) : damperref1_sign.f (k + 1) ((b.toNat : Nat) : Int) = some (isSign b) := by
  unfold damperref1_sign.f; rw [damperref1_sign.j0]; unfold isSign; generalize b.toNat = n
  have e : (((n : Nat) : Int) == 45) = decide (n = 45) := by
    by_cases h : n = 45
    · subst h; rfl
    · rw [decide_eq_false h]; exact beq_eq_false_iff_ne.2 (by omega)
  rw [e]
  by_cases h1 : 97 ≤ n <;> by_cases h2 : n ≤ 122 <;> by_cases h3 : 48 ≤ n <;> by_cases h4 : n ≤ 57 <;>
    simp [show (((n : Nat) : Int) ≥ 97) = (97 ≤ n) from propext (by omega), show (((n : Nat) : Int) ≤ 122) = (n ≤ 122) from propext (by omega), show (((n : Nat) : Int) ≥ 48) = (48 ≤ n) from propext (by omega), show (((n : Nat) : Int) ≤ 57) = (n ≤ 57) from propext (by omega), h1, h2, h3, h4] <;> omega
theorem rname_l0 (s : ByteArray) (hs : s.size < 4611686018427387904) : ∀ (m i k : Nat), i ≤ s.data.toList.length → s.data.toList.length - i = m → m + 2 ≤ k →
    damperref1_Name.l0 k s (i : Int) = some ((s.data.toList.drop i).all isSign)
  | m, i, k, hi, hm, hk => by
    obtain ⟨k, rfl⟩ : ∃ j, k = j + 1 := ⟨k - 1, by omega⟩; have hz : s.size = s.data.toList.length := rfl; rw [damperref1_Name.l0]; by_cases h : i < s.data.toList.length
    · rw [if_pos (by omega), if_pos (by omega), bt_list s i h]; obtain ⟨k, rfl⟩ : ∃ j, k = j + 1 := ⟨k - 1, by omega⟩; rw [rsign_eq, Option.bind_some, w64_small _ (by omega) (by omega), List.drop_eq_getElem_cons h, List.all_cons]; by_cases hb : isSign s.data.toList[i] = true
      · rw [if_pos hb, hb, Bool.true_and]; exact rname_l0 s hs (m - 1) (i + 1) (k + 1) (by omega) (by omega) (by omega)
      · rw [if_neg hb, (by simpa using hb : isSign s.data.toList[i] = false), Bool.false_and]
    · rw [if_neg (by omega), List.drop_of_length_le (by omega)]; rfl
theorem rname_eq (s : ByteArray) (hs : s.size < 4611686018427387904) (k : Nat) (hk : s.data.toList.length + 4 ≤ k) : damperref1_Name.f k s = some (shortL s.data.toList 16) := by
  obtain ⟨k, rfl⟩ : ∃ j, k = j + 2 := ⟨k - 2, by omega⟩; have hz : s.size = s.data.toList.length := rfl
  have hj : ∀ b, damperref1_Name.j1 (k + 1) s b = some (!b && s.data.toList.all isSign) := by
    intro b; rw [damperref1_Name.j1]; cases b
    · rw [if_neg (by decide), show (0 : Int) = ((0 : Nat) : Int) from rfl, rname_l0 s hs s.data.toList.length 0 k (by omega) (by omega) (by omega)]; rfl
    · rw [if_pos rfl]; rfl
  unfold damperref1_Name.f; rw [damperref1_Name.j0]; generalize hl : s.data.toList = l at *; by_cases h0 : (s.size : Int) < 1
  · rw [if_pos h0, hj]; have : l = [] := List.eq_nil_of_length_eq_zero (by omega); rw [this]; rfl
  rw [if_neg h0]; by_cases h1 : (s.size : Int) > 16
  · rw [if_pos h1, hj]; unfold shortL; rw [decide_eq_false (show ¬ ((l.length : Int) ≤ 16) by omega)]; simp
  rw [if_neg h1, if_pos (by omega)]; have hlen : 0 < l.length := by omega
  have b0 : bt s 0 = ((l[0]'hlen).toNat : Int) := by
    have := bt_list s 0 (by rw [hl]; exact hlen)
    simpa [hl] using this
  have bL : bt s ((s.size : Int) - 1) = ((l[l.length - 1]'(by omega)).toNat : Int) := by
    have := bt_list s (l.length - 1) (by rw [hl]; omega); rw [show ((s.size : Int) - 1) = ((l.length - 1 : Nat) : Int) by omega]
    simpa [hl] using this
  (have hh : l.head? = some (l[0]'hlen) := by rw [List.head?_eq_getElem?, List.getElem?_eq_getElem hlen]); (have hg : l.getLast? = some (l[l.length - 1]'(by omega)) := by rw [List.getLast?_eq_getElem?, List.getElem?_eq_getElem (by omega)]); rw [w64_small _ (by omega) (by omega), b0, bL]; unfold shortL; rw [hh, hg]; generalize l[0]'hlen = c; generalize l[l.length - 1]'(by omega : l.length - 1 < l.length) = d; have a0 : decide ((l.length : Int) ≤ 16) = true := decide_eq_true (by omega); rw [a0]; by_cases h2 : ((c.toNat : Nat) : Int) < 97
  · rw [if_pos h2, hj]; (have : isLetter c = false := by simp [isLetter]; omega); simp [this]
  rw [if_neg h2]; by_cases h3 : ((c.toNat : Nat) : Int) > 122
  · rw [if_pos h3, hj]; (have : isLetter c = false := by simp [isLetter]; omega); simp [this]
  (have : isLetter c = true := by simp [isLetter]; omega); rw [if_neg h3, if_pos (by omega), if_pos (by omega), hj]
  have e4 : (((d.toNat : Nat) : Int) == 45) = (some d == some 45) := by
    have : (d = 45) ↔ ((d.toNat : Int) = 45) := ⟨fun e => by subst e; rfl, fun e => UInt8.toNat_inj.1 (by show d.toNat = 45; omega)⟩; by_cases hb : d = 45
    · subst hb; rfl
    · rw [show ((some d == some (45 : UInt8)) : Bool) = false from beq_eq_false_iff_ne.2 (fun e => hb (Option.some.inj e))]; exact beq_eq_false_iff_ne.2 (mt this.2 hb)
  rw [e4]; simp [this, Bool.and_comm]
theorem rtag_eq (s : ByteArray) (hs : s.size < 4611686018427387904) (k : Nat) (hk : s.data.toList.length + 4 ≤ k) : damperref1_Tag.f k s = some (shortL s.data.toList 8) := by
  unfold damperref1_Tag.f; have hz : s.size = s.data.toList.length := rfl; by_cases h : (s.size : Int) ≤ 8
  · rw [if_pos h, rname_eq s hs k hk, Option.bind_some]; unfold shortL; rw [decide_eq_true (show (s.data.toList.length : Int) ≤ 16 by omega), decide_eq_true (show (s.data.toList.length : Int) ≤ 8 by omega)]
  · rw [if_neg h]; unfold shortL; rw [decide_eq_false (show ¬ ((s.data.toList.length : Int) ≤ 8) by omega)]; simp

/-- The signs of Text. -/
def txt : List ByteArray := [(⟨#[97]⟩ : ByteArray), (⟨#[122]⟩ : ByteArray), (⟨#[48]⟩ : ByteArray), (⟨#[57]⟩ : ByteArray), (⟨#[45]⟩ : ByteArray), (⟨#[98]⟩ : ByteArray), (⟨#[49]⟩ : ByteArray), (⟨#[65]⟩ : ByteArray), (⟨#[95]⟩ : ByteArray), (⟨#[195, 169]⟩ : ByteArray), (⟨#[97]⟩ : ByteArray), (⟨#[55]⟩ : ByteArray)]
theorem txt_small (t : Nat) (h : t < 12) : (rdOf ByteArray.empty txt (t : Int)).size ≤ 2 := by
  (have : ∀ t : Nat, t < 12 → (rdOf ByteArray.empty txt (t : Int)).size ≤ 2 := by decide); exact this t h
theorem text_l0 (l : List Int) : ∀ (m i k : Nat) (s : ByteArray), 24 - i = m → i ≤ 24 → m + 2 ≤ k → s.size ≤ 2 * i →
    ∃ r, damperlaw1_Text.l0 k l s (i : Int) = some r ∧ r.size ≤ 48
  | m, i, k, s, hm, hi, hk, hs => by
    obtain ⟨k, rfl⟩ : ∃ j, k = j + 1 := ⟨k - 1, by omega⟩; rw [damperlaw1_Text.l0]; by_cases h : (i : Int) < (l.length : Int)
    · rw [if_pos h]; by_cases a0 : (i : Int) < 24
      · rw [if_pos a0, Option.bind_some, if_pos (by omega)]; have a1 := wi_in (rd l (i : Int)) 12 (by decide) (by decide); generalize wi (rd l (i : Int)) 12 = r at a1 ⊢; obtain ⟨r0, r1⟩ := a1; rw [if_pos r0]; change ∃ a2, (if r < (txt.length : Int) then (if s.size + (rdOf ByteArray.empty txt r).size ≤ 9223372036854775807 then damperlaw1_Text.l0 k l (s ++ rdOf ByteArray.empty txt r) (wrap64 ((i : Int) + 1)) else none) else none) = some a2 ∧ a2.size ≤ 48; rw [if_pos (show r < (txt.length : Int) from r1)]; obtain ⟨t, rfl⟩ := Int.eq_ofNat_of_zero_le r0; have ht := txt_small t (by omega); rw [if_pos (by omega), w64_small _ (by omega) (by omega)]; exact text_l0 l (m - 1) (i + 1) k _ (by omega) (by omega) (by omega) (by rw [ByteArray.size_append]; omega)
      · rw [if_neg a0]; exact ⟨s, rfl, by omega⟩
    · rw [if_neg h]; exact ⟨s, rfl, by omega⟩
theorem text_ok (l : List Int) : ∃ r, (∀ k, 26 ≤ k → damperlaw1_Text.f k l = some r) ∧ r.size ≤ 48 := by
  obtain ⟨r, hr, h2⟩ := text_l0 l 24 0 26 ⟨#[]⟩ rfl (by omega) (by omega) (by decide); refine ⟨r, fun k hk => ?_, h2⟩; obtain ⟨r', hr', _⟩ := text_l0 l 24 0 k ⟨#[]⟩ rfl (by omega) (by omega) (by decide)
  have hm : ∀ j, damperlaw1_Text.l0 (26 + j) l ⟨#[]⟩ ((0 : Nat) : Int) = some r := by
    intro j
    induction j with
    | zero => exact hr
    | succ j ih => exact damperlaw1_Text.mono_l _ _ _ _ _ ih
  have := hm (k - 26); rw [show 26 + (k - 26) = k by omega] at this; exact this

def isDig (b : UInt8) : Bool := decide (48 ≤ b.toNat) && decide (b.toNat ≤ 57)
def val : List UInt8 → Nat
  | [] => 0
  | c :: r => (c.toNat - 48) * 10 ^ r.length + val r
theorem val_snoc : ∀ (l : List UInt8) (c : UInt8), val (l ++ [c]) = val l * 10 + (c.toNat - 48)
  | [], c => by simp [val]
  | a :: l, c => by
    rw [List.cons_append, val, val, val_snoc l c, List.length_append, List.length_singleton, Nat.pow_succ, Nat.add_mul, Nat.mul_assoc]; omega
theorem val_lt : ∀ (l : List UInt8), l.all isDig = true → val l < 10 ^ l.length
  | [], _ => by simp [val]
  | c :: r, h => by
    rw [List.all_cons, Bool.and_eq_true] at h; have := val_lt r h.2; (have hc : c.toNat - 48 ≤ 9 := by have := h.1; simp [isDig] at this; omega); rw [val, List.length_cons, Nat.pow_succ]; have : (c.toNat - 48) * 10 ^ r.length ≤ 9 * 10 ^ r.length := Nat.mul_le_mul_right _ hc; omega
theorem toNat_dig (d : Nat) (h : d < 10) : (UInt8.ofNat (48 + d)).toNat = 48 + d := by
  rw [UInt8.toNat_ofNat']; omega
theorem dig_spec : ∀ (k u : Nat), u < 10 ^ (k + 1) → (dig (k + 1) u).all isDig = true ∧ val (dig (k + 1) u) = u ∧ 0 < (dig (k + 1) u).length ∧ (1 ≤ u → ∀ h : 0 < (dig (k + 1) u).length, (dig (k + 1) u)[0].toNat ≠ 48)
  | k, u, hu => by
    rw [dig]; by_cases h : u < 10
    · rw [if_pos h]; have := toNat_dig u h; refine ⟨by simp [isDig]; omega, by rw [val, val, this]; simp, by simp, fun h1 _ => by simp only [List.getElem_cons_zero]; omega⟩
    · rw [if_neg h]
      cases k with
      | zero => exact absurd hu (by omega)
      | succ k =>
        obtain ⟨a, b, c, d⟩ := dig_spec k (u / 10) (by rw [Nat.pow_succ] at hu; omega); have e := toNat_dig (u % 10) (by omega); refine ⟨by rw [List.all_append, a]; simp [isDig]; omega, by rw [val_snoc, b, e]; omega, by simp, fun _ h0 => ?_⟩; rw [List.getElem_append_left c]; exact d (by omega) c
theorem snoc_of {l : List UInt8} (h : 0 < l.length) : ∃ r c, l = r ++ [c] := ⟨l.dropLast, l.getLast (List.ne_nil_of_length_pos h), (List.dropLast_concat_getLast _).symm⟩
theorem val_dig : ∀ (n : Nat) (l : List UInt8) (k : Nat), l.length = n → l.all isDig = true → 0 < l.length → l.length ≤ k + 1 → (∀ h : 0 < l.length, 1 < l.length → l[0].toNat ≠ 48) → dig (k + 1) (val l) = l
  | n, l0, k, a0, ha, hl, hk, h0 => by
    obtain ⟨l, c, rfl⟩ := snoc_of hl; rw [List.all_append, Bool.and_eq_true] at ha; (have hc : 48 ≤ c.toNat ∧ c.toNat ≤ 57 := by have := ha.2; simpa [isDig] using this); rw [val_snoc, dig]; by_cases hn : l = []
    · subst hn; (have : val [] * 10 + (c.toNat - 48) < 10 := by simp [val]; omega); rw [if_pos this]; simp only [val, List.nil_append]; rw [show 48 + (0 * 10 + (c.toNat - 48)) = c.toNat by omega]; simp
    · have hp : 0 < l.length := List.length_pos_iff.2 hn
      have hz : (l[0]'hp).toNat ≠ 48 := by
        have := h0 (by simp) (by simp; omega); rw [List.getElem_append_left hp] at this; exact this
      have a1 : isDig (l[0]'hp) = true := List.all_eq_true.1 ha.1 _ (List.getElem_mem hp)
      have hv : 1 ≤ val l := by
        cases l with
        | nil => exact absurd rfl hn
        | cons a r =>
          have h1 : a.toNat ≠ 48 := hz; have h2 : isDig a = true := a1; simp [isDig] at h2; rw [val]; have : 1 ≤ (a.toNat - 48) * 10 ^ r.length := Nat.mul_pos (by omega) (Nat.pow_pos (by omega)); omega
      simp only [List.length_append, List.length_singleton] at hk; obtain ⟨k, rfl⟩ : ∃ i, k = i + 1 := ⟨k - 1, by omega⟩
      rw [if_neg (by omega), show (val l * 10 + (c.toNat - 48)) / 10 = val l by omega, show (val l * 10 + (c.toNat - 48)) % 10 = c.toNat - 48 by omega,
        val_dig (n - 1) l k (by simp at a0; omega) ha.1 hp (by omega) (fun _ _ => hz), show 48 + (c.toNat - 48) = c.toNat by omega]
      simp

/-! ### Atoi of digits -/
theorem pu_snoc : ∀ (l : List UInt8) (acc a : Nat) (c : UInt8), Lib.parseUint10 acc l = .ok a → a < 1000000000 → isDig c = true → Lib.parseUint10 acc (l ++ [c]) = .ok (a * 10 + (c.toNat - 48))
  | [], acc, a, c, h, ha, hc => by
    (obtain rfl : acc = a := by simpa [Lib.parseUint10] using h); (have h2 : 48 ≤ c.toNat ∧ c.toNat ≤ 57 := by simpa [isDig] using hc); rw [List.nil_append, Lib.parseUint10, if_pos h2, if_neg (by omega), if_neg (by omega), Lib.parseUint10]
  | b :: l, acc, a, c, h, ha, hc => by
    rw [Lib.parseUint10] at h; by_cases h1 : 48 ≤ b.toNat ∧ b.toNat ≤ 57
    · rw [if_pos h1] at h; by_cases h2 : 1844674407370955162 ≤ acc
      · rw [if_pos h2] at h; cases h
      · rw [if_neg h2] at h; by_cases h3 : 18446744073709551616 ≤ acc * 10 + (b.toNat - 48)
        · rw [if_pos h3] at h; cases h
        · rw [if_neg h3] at h; rw [List.cons_append, Lib.parseUint10, if_pos h1, if_neg h2, if_neg h3]; exact pu_snoc l _ a c h ha hc
    · rw [if_neg h1] at h; cases h
theorem pu_val : ∀ (n : Nat) (l : List UInt8), l.length = n → n ≤ 9 → l.all isDig = true → Lib.parseUint10 0 l = .ok (val l)
  | 0, l, hn, _, _ => by
    have : l = [] := List.eq_nil_of_length_eq_zero hn; rw [this]; rfl
  | n + 1, l0, hn, h9, ha => by
    obtain ⟨l, c, rfl⟩ := snoc_of (show 0 < l0.length by omega); rw [List.all_append, Bool.and_eq_true] at ha; (have hl : l.length = n := by simp at hn; omega); have hv := val_lt l ha.1; have hp : 10 ^ l.length ≤ 10 ^ 8 := Nat.pow_le_pow_right (by omega) (by omega); (have hc : isDig c = true := by have := ha.2; simpa using this); rw [pu_snoc l 0 (val l) c (pu_val n l hl (by omega) ha.1) (by omega) hc, val_snoc]
theorem atoi_val (l : List UInt8) (h0 : 0 < l.length) (h9 : l.length ≤ 9) (ha : l.all isDig = true) : Lib.atoiAll l = .ok (val l : Int) := by
  cases l with
  | nil => exact absurd h0 (by simp)
  | cons c r =>
    have hc : 48 ≤ c.toNat ∧ c.toNat ≤ 57 := by
      rw [List.all_cons, Bool.and_eq_true] at ha; simpa [isDig] using ha.1
    rw [Lib.atoiAll_plain c r (by omega) (by omega)]; unfold Lib.parseMag; rw [if_neg (by simp), pu_val _ (c :: r) rfl h9 ha]; have hv := val_lt (c :: r) ha; have hp : 10 ^ (c :: r).length ≤ 10 ^ 9 := Nat.pow_le_pow_right (by omega) h9; simp only [Lib.signless]; rw [if_neg (by omega)]

/-! ### How a text is parted -/
/-- l is c's name and g's digits. -/
def Parts (l c : List UInt8) (g : Nat) : Prop := shortL c 16 = true ∧ 1 ≤ g ∧ g ≤ 999999 ∧ l = c ++ 45 :: dig 6 g
theorem last_at (s : ByteArray) (c ds : List UInt8) (h : s.data.toList = c ++ 45 :: ds) (hd : ds.all isDig = true) : Lib.lastIndexByte s 45 = (c.length : Int) := by
  have hz : s.size = s.data.toList.length := rfl; have hlen : s.data.toList.length = c.length + 1 + ds.length := by rw [h]; simp; omega
  have get : ∀ (j : Nat) (hj : j < s.data.toList.length), (s.data[j]!).toNat = (s.data.toList[j]'hj).toNat := by
    intro j hj; have hj' : j < s.data.size := hj; rw [getElem!_pos s.data j hj']; rfl
  have hc : (s.data.toList[c.length]'(by omega)) = 45 := by
    simp [h]
  have far : ∀ (j : Nat) (hj : j < s.data.toList.length), c.length < j → ((s.data.toList[j]'hj).toNat : Int) ≠ 45 := by
    intro j hj hlt
    have e : (s.data.toList[j]'hj) = ds[j - c.length - 1]'(by omega) := by
      simp only [h]; rw [List.getElem_append_right (by omega), List.getElem_cons, dif_neg (by omega)]
    have := List.all_eq_true.1 hd _ (List.getElem_mem (show j - c.length - 1 < ds.length by omega)); rw [e]; simp [isDig] at this; omega
  unfold Lib.lastIndexByte; rcases Lib.lastIdx_spec s 45 s.size with ⟨_, h2⟩ | ⟨i, hi, e, h3, h4⟩
  · exact absurd (by rw [get _ (by omega), hc]; rfl) (h2 c.length (by omega))
  · rw [e]; rcases Nat.lt_trichotomy i c.length with hlt | heq | hgt
    · exact absurd (by rw [get _ (by omega), hc]; rfl) (h4 c.length hlt (by omega))
    · rw [heq]
    · rw [get i (by omega)] at h3; exact absurd h3 (far i (by omega) hgt)
theorem dig6 {g : Nat} (h : g ≤ 999999) : (dig 6 g).all isDig = true ∧ val (dig 6 g) = g ∧ 0 < (dig 6 g).length ∧ (1 ≤ g → ∀ h : 0 < (dig 6 g).length, (dig 6 g)[0].toNat ≠ 48) := dig_spec 5 g (by omega)
theorem splitV_parts (s : ByteArray) (c : List UInt8) (g : Nat) (h : Parts s.data.toList c g) : splitV s = (⟨c.toArray⟩, (g : Int), true) := by
  obtain ⟨h1, h2, h3, h4⟩ := h; obtain ⟨d1, d2, d3, _⟩ := dig6 h3; unfold splitV; rw [last_at s c _ h4 d1, if_neg (by omega), show ((c.length : Nat) : Int).toNat = c.length from rfl]; unfold splitL; (have e1 : s.data.toList.drop (c.length + 1) = dig 6 g := by rw [h4]; simp); (have e2 : s.data.toList.take c.length = c := by rw [h4]; simp); rw [e1, e2, atoi_val _ d3 (by have := dig_len 6 g; omega) d1, d2]
  have e3 : revL c (g : Int) = s.data.toList := by
    unfold revL; rw [if_pos ⟨h1, by omega, by omega⟩, h4]; rfl
  simp only []; rw [if_pos e3]
theorem splitV_not (s : ByteArray) (h : ∀ c g, ¬ Parts s.data.toList c g) : splitV s = (⟨#[]⟩, 0, false) := by
  unfold splitV; by_cases h1 : Lib.lastIndexByte s 45 < 0
  · rw [if_pos h1]
  rw [if_neg h1]; obtain ⟨i, hi, e⟩ := last_bounds s h1; rw [e]; unfold splitL; rcases Lib.atoiAll (s.data.toList.drop (((i : Nat) : Int).toNat + 1)) with v | _ | _
  · simp only []; by_cases h2 : revL (s.data.toList.take ((i : Nat) : Int).toNat) v = s.data.toList
    · exfalso; unfold revL at h2; by_cases h3 : shortL (s.data.toList.take ((i : Nat) : Int).toNat) 16 = true ∧ 1 ≤ v ∧ v ≤ 999999
      · rw [if_pos h3] at h2; exact h _ v.toNat ⟨h3.1, by omega, by omega, h2.symm⟩
      · rw [if_neg h3] at h2; have hz : s.size = s.data.toList.length := rfl; (have h5 : s.data.toList.length = 0 := by rw [← h2]; rfl); omega
    · rw [if_neg h2]
  · rfl
  · rfl

/-! ### How the document parts it -/
/-- What the document says where its loop ends. -/
def refE (l : List UInt8) (a n : Nat) : ByteArray × Int × Bool :=
  if a < 1 ∨ a = l.length ∨ (l[a - 1]?).map (·.toNat) ≠ some 45 ∨ (l[a]?).map (·.toNat) = some 48 ∨ shortL (l.take (a - 1)) 16 = false then (⟨#[]⟩, 0, false) else (⟨(l.take (a - 1)).toArray⟩, (n : Int), true)
theorem ref_j2 (s : ByteArray) (hs : s.size < 281474976710656) (a n k : Nat) (b : Bool) (ha : a ≤ s.data.toList.length) (a0 : b = false → 1 ≤ a) :
    damperref1_Split.j2 (k + 1) s (a : Int) (n : Int) b = some (if b then (⟨#[]⟩, 0, false) else (⟨(s.data.toList.take (a - 1)).toArray⟩, (n : Int), true)) := by
  have hz : s.size = s.data.toList.length := rfl; rw [damperref1_Split.j2]
  cases b with
  | true => rfl
  | false =>
    have h1 := a0 rfl; rw [if_neg (by decide), w64_small _ (by omega) (by omega), if_pos (by omega), if_pos (by omega), show ((a : Int) - 1).toNat = a - 1 by omega, take_ba]; rfl
theorem ref_end (s : ByteArray) (hs : s.size < 281474976710656) (a n k : Nat) (ha : a ≤ s.data.toList.length) (hk : s.data.toList.length + 10 ≤ k) :
    damperref1_Split.j1 k s (a : Int) (n : Int) (10 ^ (s.data.toList.length - a) : Nat) false = some (refE s.data.toList a n) := by
  have hz : s.size = s.data.toList.length := rfl; obtain ⟨k, rfl⟩ : ∃ i, k = i + 2 := ⟨k - 2, by omega⟩; rw [damperref1_Split.j1, if_neg (by decide)]; unfold refE; by_cases h1 : a < 1
  · rw [if_pos (by omega), if_pos (.inl h1), ref_j2 s hs a n k true ha (by simp)]; rfl
  rw [if_neg (by omega)]; by_cases h2 : a = s.data.toList.length
  · rw [if_pos (by omega), if_pos (.inr (.inl h2)), ref_j2 s hs a n k true ha (by simp)]; rfl
  rw [if_neg (by omega), w64_small _ (by omega) (by omega), if_pos (by omega), if_pos (by omega), show ((a : Int) - 1) = ((a - 1 : Nat) : Int) by omega, bt_list s (a - 1) (by omega), bt_list s a (by omega)]; have g1 : s.data.toList[a - 1]? = some (s.data.toList[a - 1]'(by omega)) := List.getElem?_eq_getElem (by omega); have g2 : s.data.toList[a]? = some (s.data.toList[a]'(by omega)) := List.getElem?_eq_getElem (by omega); rw [g1, g2, Option.map_some, Option.map_some]; generalize s.data.toList[a - 1]'(by omega : a - 1 < s.data.toList.length) = p; generalize s.data.toList[a]'(by omega : a < s.data.toList.length) = q; by_cases h3 : p.toNat = 45
  · rw [if_pos (by omega), if_pos (by omega), if_pos (by omega)]; by_cases h4 : q.toNat = 48
    · rw [if_pos (by omega), if_pos (.inr (.inr (.inr (.inl (by rw [h4]))))), ref_j2 s hs a n k true ha (by simp)]; rfl
    · rw [if_neg (by omega), if_pos (by omega), show (((a - 1 : Nat) : Int)).toNat = a - 1 from rfl, rname_eq _ (by rw [ByteArray.size_extract]; omega) (k + 1) (by rw [take_ba]; simp; omega), Option.bind_some, take_ba]; show damperref1_Split.j2 (k + 1) s (a : Int) (n : Int) (!(shortL (s.data.toList.take (a - 1)) 16)) = _; rw [ref_j2 s hs a n k _ ha (fun _ => by omega)]
      cases h5 : shortL (s.data.toList.take (a - 1)) 16 with
      | true =>
        rw [if_neg (by decide), if_neg]; rintro (h | h | h | h | h)
        · exact h1 h
        · exact h2 h
        · exact h (by rw [h3])
        · exact h4 (Option.some.inj h)
        · cases h
      | false => rw [if_pos (by decide), if_pos (.inr (.inr (.inr (.inr rfl))))]
  · rw [if_neg (by omega), if_pos (.inr (.inr (.inl (fun h => h3 (Option.some.inj h))))), ref_j2 s hs a n k true ha (by simp)]; rfl
/-- Where the loop ends: what was taken are digits, six at most; and no more could be taken. -/
def Stop (l : List UInt8) (a : Nat) : Prop := a ≤ l.length ∧ (l.drop a).all isDig = true ∧ l.length - a ≤ 6 ∧ (a = 0 ∨ (∀ h : a - 1 < l.length, isDig l[a - 1] = false) ∨ l.length - a = 6)
theorem ref_l0 (s : ByteArray) (hs : s.size < 281474976710656) : ∀ (m a : Nat), 6 - (s.data.toList.length - a) = m → a ≤ s.data.toList.length → (s.data.toList.drop a).all isDig = true → s.data.toList.length - a ≤ 6 →
    ∃ b, Stop s.data.toList b ∧ ∀ k, s.data.toList.length + 14 + 2 * m ≤ k → damperref1_Split.l0 k s (a : Int) (val (s.data.toList.drop a) : Nat) (10 ^ (s.data.toList.length - a) : Nat) = some (refE s.data.toList b (val (s.data.toList.drop b)))
  | m, a, hm, ha, hd, h6 => by
    have hz : s.size = s.data.toList.length := rfl
    -- the loop's own test
    have hstop : (a = 0 ∨ (∀ h : a - 1 < s.data.toList.length, isDig s.data.toList[a - 1] = false) ∨ s.data.toList.length - a = 6) →
        ∃ b, Stop s.data.toList b ∧ ∀ k, s.data.toList.length + 14 + 2 * m ≤ k → damperref1_Split.l0 k s (a : Int) (val (s.data.toList.drop a) : Nat) (10 ^ (s.data.toList.length - a) : Nat) = some (refE s.data.toList b (val (s.data.toList.drop b))) := by
      intro hst; refine ⟨a, ⟨ha, hd, h6, hst⟩, fun k hk => ?_⟩; obtain ⟨k, rfl⟩ : ∃ i, k = i + 1 := ⟨k - 1, by omega⟩; rw [damperref1_Split.l0]; by_cases h0 : a = 0
      · rw [if_neg (by omega)]; exact ref_end s hs a _ k ha (by omega)
      rw [if_pos (by omega), w64_small _ (by omega) (by omega), if_pos (by omega), if_pos (by omega), show ((a : Int) - 1) = ((a - 1 : Nat) : Int) by omega, bt_list s (a - 1) (by omega)]; by_cases a0 : (((s.data.toList[a - 1]'(by omega)).toNat : Nat) : Int) ≥ 48
      · rw [if_pos a0]; by_cases a1 : (((s.data.toList[a - 1]'(by omega)).toNat : Nat) : Int) ≤ 57
        · rw [if_pos a1]
          have e6 : s.data.toList.length - a = 6 := by
            rcases hst with h | h | h
            · exact absurd h h0
            · have := h (by omega); rw [isDig, decide_eq_true (by omega), decide_eq_true (by omega)] at this; cases this
            · exact h
          rw [e6, decide_eq_false (by decide)]; have := ref_end s hs a (val (s.data.toList.drop a)) k ha (by omega); rw [e6] at this; exact this
        · rw [if_neg a1]; exact ref_end s hs a _ k ha (by omega)
      · rw [if_neg a0]; exact ref_end s hs a _ k ha (by omega)
    by_cases h0 : a = 0
    · exact hstop (.inl h0)
    by_cases h1 : isDig (s.data.toList[a - 1]'(by omega)) = true; rotate_left
    · exact hstop (.inr (.inl (fun _ => by simpa using h1)))
    by_cases h2 : s.data.toList.length - a = 6
    · exact hstop (.inr (.inr h2))
    have hdr : s.data.toList.drop (a - 1) = (s.data.toList[a - 1]'(by omega)) :: s.data.toList.drop a := by
      have := List.drop_eq_getElem_cons (show a - 1 < s.data.toList.length by omega); rw [this, show a - 1 + 1 = a by omega]
    (have hd' : (s.data.toList.drop (a - 1)).all isDig = true := by rw [hdr, List.all_cons, h1, hd]; rfl); obtain ⟨b, hb, hk'⟩ := ref_l0 s hs (m - 1) (a - 1) (by omega) (by omega) hd' (by omega); refine ⟨b, hb, fun k hk => ?_⟩; (have hkk : s.data.toList.length + 14 + 2 * (m - 1) ≤ k - 2 := by clear h1 hdr hstop hk' hd hd'; omega); obtain ⟨k, rfl⟩ : ∃ i, k = i + 2 := ⟨k - 2, by clear h1 hdr hstop hk' hd hd'; omega⟩; (have hc : 48 ≤ (s.data.toList[a - 1]'(by omega)).toNat ∧ (s.data.toList[a - 1]'(by omega)).toNat ≤ 57 := by simpa [isDig] using h1); have hpow : 10 ^ (s.data.toList.length - a) ≤ 10 ^ 5 := Nat.pow_le_pow_right (by omega) (by omega); have hv := val_lt _ hd; rw [List.length_drop] at hv; have a3 := val_lt _ hd'; rw [List.length_drop] at a3; have a4 : 10 ^ (s.data.toList.length - (a - 1)) ≤ 10 ^ 6 := Nat.pow_le_pow_right (by omega) (by omega); have a2 : 10 ^ (s.data.toList.length - (a - 1)) = 10 ^ (s.data.toList.length - a) * 10 := by rw [show s.data.toList.length - (a - 1) = s.data.toList.length - a + 1 by omega, Nat.pow_succ]
    have ev : val (s.data.toList.drop (a - 1)) = ((s.data.toList[a - 1]'(by omega)).toNat - 48) * 10 ^ (s.data.toList.length - a) + val (s.data.toList.drop a) := by
      rw [hdr, val, List.length_drop]
    rw [damperref1_Split.l0, if_pos (by omega), w64_small _ (by omega) (by omega), if_pos (by omega), if_pos (by omega), show ((a : Int) - 1) = ((a - 1 : Nat) : Int) by omega, bt_list s (a - 1) (by omega), if_pos (by omega), if_pos (by omega),
      decide_eq_true (by omega), damperref1_Split.j1, if_pos rfl]
    rw [w64_small ((a : Int) - 1) (by omega) (by omega), if_pos (by omega), if_pos (by omega), show ((a : Int) - 1) = ((a - 1 : Nat) : Int) by omega, bt_list s (a - 1) (by omega)]; obtain ⟨c, hcc⟩ : ∃ c, (s.data.toList[a - 1]'(by omega)).toNat = c := ⟨_, rfl⟩; rw [hcc] at hc ev ⊢; (have em : (((c : Nat) : Int) - 48) % 256 = ((c - 48 : Nat) : Int) := by omega); rw [em]; obtain ⟨P, hP⟩ : ∃ P, 10 ^ (s.data.toList.length - a) = P := ⟨_, rfl⟩; rw [hP] at hpow hv a2 ev ⊢; have hcp : (c - 48) * P ≤ 9 * P := Nat.mul_le_mul_right _ (by omega); (have e1 : ((P : Nat) : Int) * ((c - 48 : Nat) : Int) = (((c - 48) * P : Nat) : Int) := by rw [Nat.mul_comm, Int.natCast_mul]); rw [e1, w64_small ((((c - 48) * P : Nat) : Int)) (by omega) (by omega), w64_small (((P : Nat) : Int) * 10) (by omega) (by omega), w64_small _ (by omega) (by omega)]; have := hk' k hkk; rw [ev, a2] at this; rw [show ((val (s.data.toList.drop a) : Nat) : Int) + (((c - 48) * P : Nat) : Int) = (((c - 48) * P + val (s.data.toList.drop a) : Nat) : Int) by omega, show ((P : Nat) : Int) * 10 = ((P * 10 : Nat) : Int) by omega]; exact this
theorem rsplit_stop (s : ByteArray) (hs : s.size < 281474976710656) : ∃ b, Stop s.data.toList b ∧ ∀ k, s.data.toList.length + 30 ≤ k → damperref1_Split.f k s = some (refE s.data.toList b (val (s.data.toList.drop b))) := by
  obtain ⟨b, hb, h⟩ := ref_l0 s hs 6 s.data.toList.length (by omega) (Nat.le_refl _) (by rw [List.drop_length]; rfl) (by omega); refine ⟨b, hb, fun k hk => ?_⟩; have := h k (by omega); simp only [List.drop_length, Nat.sub_self, val] at this; exact this
theorem refE_parts {l c : List UInt8} {g b : Nat} (h : Parts l c g) (hb : Stop l b) : refE l b (val (l.drop b)) = (⟨c.toArray⟩, (g : Int), true) := by
  obtain ⟨h1, h2, h3, h4⟩ := h; obtain ⟨b1, b2, b3, b4⟩ := hb; obtain ⟨d1, d2, d3, d4⟩ := dig6 h3; have d5 := dig_len 6 g; (have hlen : l.length = c.length + 1 + (dig 6 g).length := by rw [h4]; simp; omega); have hc : l[c.length]? = some 45 := by rw [h4]; simp
  have hge : c.length + 1 ≤ b := by
    apply Nat.le_of_not_lt; intro hlt
    have : (45 : UInt8) ∈ l.drop b := by
      (have e : (l.drop b)[c.length - b]? = some 45 := by rw [List.getElem?_drop, show b + (c.length - b) = c.length by omega, hc]); exact List.mem_of_getElem? e
    have := List.all_eq_true.1 b2 _ this; revert this; decide
  have heq : b = c.length + 1 := by
    rcases Nat.lt_or_ge (c.length + 1) b with hlt | hle
    · rcases b4 with h | h | h
      · omega
      · have e : l[b - 1]? = (dig 6 g)[b - 1 - c.length - 1]? := by
          rw [h4, List.getElem?_append_right (by omega), show b - 1 - c.length = (b - 1 - c.length - 1) + 1 by omega, List.getElem?_cons_succ]; congr 1
        rw [List.getElem?_eq_getElem (by omega), List.getElem?_eq_getElem (by omega)] at e; have e2 := h (by omega); rw [Option.some.inj e] at e2; have := List.all_eq_true.1 d1 _ (List.getElem_mem (show b - 1 - c.length - 1 < (dig 6 g).length by omega)); rw [this] at e2; cases e2
      · omega
    · omega
  subst heq; (have e1 : l.drop (c.length + 1) = dig 6 g := by rw [h4]; simp); have e2 : l.take (c.length + 1 - 1) = c := by rw [h4]; simp
  have e3 : l[c.length + 1]? = some ((dig 6 g)[0]'d3) := by
    rw [h4, List.getElem?_append_right (by omega), show c.length + 1 - c.length = 0 + 1 by omega, List.getElem?_cons_succ, List.getElem?_eq_getElem d3]
  unfold refE; rw [e1, e2, d2, if_neg]; rintro (h | h | h | h | h)
  · omega
  · omega
  · apply h; rw [show c.length + 1 - 1 = c.length by omega, hc]; rfl
  · rw [e3] at h; exact d4 h2 d3 (Option.some.inj h)
  · rw [h1] at h; cases h
theorem refE_not {l : List UInt8} {b : Nat} (h : ∀ c g, ¬ Parts l c g) (hb : Stop l b) : refE l b (val (l.drop b)) = (⟨#[]⟩, 0, false) := by
  obtain ⟨b1, b2, b3, b4⟩ := hb; unfold refE; by_cases hq : b < 1 ∨ b = l.length ∨ (l[b - 1]?).map (·.toNat) ≠ some 45 ∨ (l[b]?).map (·.toNat) = some 48 ∨ shortL (l.take (b - 1)) 16 = false
  · rw [if_pos hq]
  exfalso; simp only [not_or, Decidable.not_not] at hq; obtain ⟨q1, q2, q3, q4, q5⟩ := hq; (have hbl : b < l.length := by omega); have hlen : (l.drop b).length = l.length - b := List.length_drop ..
  have h0 : ∀ h : 0 < (l.drop b).length, (l.drop b)[0].toNat ≠ 48 := by
    intro h e; apply q4; rw [List.getElem_drop] at e; rw [List.getElem?_eq_getElem hbl]
    simpa using e
  have hv := val_dig _ (l.drop b) 5 rfl b2 (by omega) (by omega) (fun h _ => h0 h); have hlt := val_lt _ b2; have hp : 10 ^ (l.drop b).length ≤ 10 ^ 6 := Nat.pow_le_pow_right (by omega) (by omega)
  have a0 : l[b - 1]'(by omega) = 45 := by
    rw [List.getElem?_eq_getElem (by omega), Option.map_some] at q3; exact UInt8.toNat_inj.1 (Option.some.inj q3)
  refine h (l.take (b - 1)) (val (l.drop b)) ⟨by simpa using q5, ?_, by omega, ?_⟩
  · apply Nat.one_le_iff_ne_zero.2; intro h1; rw [h1] at hv; (have : (l.drop b)[0]'(by omega) = 48 := by simp [← hv, dig]); exact h0 (by omega) (by rw [this]; rfl)
  · rw [hv]
    have e1 : l.drop (b - 1) = 45 :: l.drop b := by
      rw [List.drop_eq_getElem_cons (show b - 1 < l.length by omega), a0, show b - 1 + 1 = b by omega]
    rw [← e1, List.take_append_drop]
/-- BOTH PART ALIKE. -/
theorem rsplit_eq (s : ByteArray) (hs : s.size < 281474976710656) (k : Nat) (hk : s.data.toList.length + 30 ≤ k) : damperref1_Split.f k s = some (splitV s) := by
  obtain ⟨b, hb, h⟩ := rsplit_stop s hs; rw [h k hk]; by_cases hp : ∃ c g, Parts s.data.toList c g
  · obtain ⟨c, g, hp⟩ := hp; rw [refE_parts hp hb, splitV_parts s c g hp]
  · have hn : ∀ c g, ¬ Parts s.data.toList c g := fun c g h => hp ⟨c, g, h⟩; rw [refE_not hn hb, splitV_not s hn]

theorem has_eq (a b n : Int) : spec_span_has.f a b n = some (decide (a ≤ n) && decide (n ≤ b)) := by
  unfold spec_span_has.f; by_cases h : n ≥ a
  · rw [if_pos h, decide_eq_true (show a ≤ n from h), Bool.true_and]
  · rw [if_neg h, decide_eq_false (show ¬ a ≤ n from h), Bool.false_and]
def cfgOk (img conc mn mx gr : Int) : Bool := (decide (0 ≤ img) && decide (img ≤ 255)) && ((decide (1 ≤ conc) && decide (conc ≤ 8)) && ((decide (1 ≤ mx) && decide (mx ≤ 10)) && ((decide (0 ≤ mn) && decide (mn ≤ mx)) && (decide (0 ≤ gr) && decide (gr ≤ 30)))))
/-- What is wrong with a configuration. -/
def cfgE (l : List UInt8) (img conc mn mx gr : Int) : Int := if shortL l 16 = true then (if cfgOk img conc mn mx gr = true then 0 else 2) else 1
theorem cfg_eq (k : Nat) (nm : ByteArray) (img conc mn mx gr : Int) : spec_Config.f (k + 1) nm img conc mn mx gr = some (cfgE nm.data.toList img conc mn mx gr) := by
  unfold spec_Config.f cfgE cfgOk; simp only [name_eq, has_eq, Option.bind_some]; generalize (decide (0 ≤ img) && decide (img ≤ 255)) = b1; generalize (decide (1 ≤ conc) && decide (conc ≤ 8)) = b2; generalize (decide (1 ≤ mx) && decide (mx ≤ 10)) = b3; generalize (decide (0 ≤ mn) && decide (mn ≤ mx)) = b4; generalize (decide (0 ≤ gr) && decide (gr ≤ 30)) = b5; (have j : ∀ b, spec_Config.j0 (k + 1) b = some (if b = true then 2 else 0) := by intro b; cases b <;> rfl); simp only [j]; cases shortL nm.data.toList 16 <;> cases b1 <;> cases b2 <;> cases b3 <;> cases b4 <;> cases b5 <;> rfl
theorem cfgOk_no {img conc mn mx gr : Int} (h : ¬ (0 ≤ img ∧ img ≤ 255 ∧ 1 ≤ conc ∧ conc ≤ 8 ∧ 1 ≤ mx ∧ mx ≤ 10 ∧ 0 ≤ mn ∧ mn ≤ mx ∧ 0 ≤ gr ∧ gr ≤ 30)) : cfgOk img conc mn mx gr = false := by
  rw [Bool.eq_false_iff]; intro h2; simp only [cfgOk, Bool.and_eq_true, decide_eq_true_eq] at h2; exact h (by omega)
theorem cfgOk_yes {img conc mn mx gr : Int} (h : 0 ≤ img ∧ img ≤ 255 ∧ 1 ≤ conc ∧ conc ≤ 8 ∧ 1 ≤ mx ∧ mx ≤ 10 ∧ 0 ≤ mn ∧ mn ≤ mx ∧ 0 ≤ gr ∧ gr ≤ 30) : cfgOk img conc mn mx gr = true := by
  simp only [cfgOk, Bool.and_eq_true, decide_eq_true_eq]; omega
theorem rcfg_eq (k : Nat) (nm : ByteArray) (hs : nm.size < 4611686018427387904) (hk : nm.data.toList.length + 4 ≤ k) (img conc mn mx gr : Int) : damperref2_Config.f k nm img conc mn mx gr = some (cfgE nm.data.toList img conc mn mx gr) := by
  unfold damperref2_Config.f; rw [rname_eq nm hs k hk, Option.bind_some]; obtain ⟨k, rfl⟩ : ∃ j, k = j + 1 := ⟨k - 1, by omega⟩; (have j : ∀ b, damperref2_Config.j0 (k + 1) b = some (if b = true then 2 else 0) := by intro b; cases b <;> rfl); simp only [j]; unfold cfgE; by_cases hn : shortL nm.data.toList 16 = true
  · rw [if_pos hn, if_pos hn]; by_cases h : 0 ≤ img ∧ img ≤ 255 ∧ 1 ≤ conc ∧ conc ≤ 8 ∧ 1 ≤ mx ∧ mx ≤ 10 ∧ 0 ≤ mn ∧ mn ≤ mx ∧ 0 ≤ gr ∧ gr ≤ 30
    · rw [cfgOk_yes h, if_neg (by omega), if_neg (by omega), if_neg (by omega), if_neg (by omega), if_neg (by omega), if_neg (by omega), if_neg (by omega), if_neg (by omega), if_neg (by omega), decide_eq_false (by omega)]; rfl
    · rw [cfgOk_no h]
      repeat' first | rfl | (rename_i c; rw [decide_eq_true (show gr > 30 by omega)]; rfl) | split
  · rw [if_neg hn, if_neg hn]

/-- What is wrong with one target. -/
def tgE (t : S39) : Int := tgt t.f0 t.f1 t.f2 (splitV t.f0).2.2 (shortL t.f1.data.toList 8)
theorem target_eq (t : S39) (h : t.f0.size ≤ 140737488351232) : spec_target.f t.f0 t.f1 t.f2 = some (tgE t) := by
  unfold spec_target.f; rw [split_eq _ h, Option.bind_some, tag_eq, Option.bind_some]; rfl
/-- The first that is wrong. -/
def firstE : List S39 → Int
  | [] => 0
  | t :: ts => if tgE t = 0 then firstE ts else tgE t
/-- What is wrong with a route. -/
def routeE (n c : ByteArray) (l : List S39) (roll : Int) : Int :=
  if (shortL n.data.toList 16 && shortL c.data.toList 16) = true then (if 0 ≤ roll ∧ roll ≤ 60 then (if 1 ≤ l.length ∧ l.length ≤ 6 then (if firstE l = 0 then all_go [] l 0 else firstE l) else 3) else 2) else 1
theorem rd_at (l : List S39) (i : Nat) (h : i < l.length) : rd_T39 l (i : Int) = l[i] := by
  show l.getD i z39 = l[i]; rw [List.getD_eq_getElem?_getD, List.getElem?_eq_getElem h]; rfl
theorem route_l0 (l : List S39) (n c : ByteArray) (roll : Int) (hl : l.length ≤ 6) (hs : ∀ t ∈ l, t.f0.size ≤ 140737488351232) : ∀ (m i k : Nat), l.length - i = m → i ≤ l.length → m + 1 ≤ k →
    spec_Route.l0 k l (l.length : Int) (i : Int) n c l roll = some (if firstE (l.drop i) = 0 then all_go [] l 0 else firstE (l.drop i))
  | m, i, k, hm, hi, hk => by
    obtain ⟨k, rfl⟩ : ∃ j, k = j + 1 := ⟨k - 1, by omega⟩; rw [spec_Route.l0]; by_cases h : i < l.length
    · rw [if_pos (by omega), if_pos (by omega), if_pos (by omega), rd_at l i h, target_eq _ (hs _ (List.getElem_mem h)), Option.bind_some, w64_small _ (by omega) (by omega), List.drop_eq_getElem_cons h, firstE]; by_cases h0 : tgE l[i] = 0
      · rw [if_pos h0, if_pos h0]; exact route_l0 l n c roll hl hs (m - 1) (i + 1) k (by omega) (by omega) (by omega)
      · rw [if_neg h0, if_neg h0, if_neg h0]
    · rw [if_neg (by omega), List.drop_of_length_le (by omega)]; rfl
theorem route_eq (k : Nat) (hk : 10 ≤ k) (n c : ByteArray) (l : List S39) (roll : Int) (hs : ∀ t ∈ l, t.f0.size ≤ 140737488351232) : spec_Route.f k n c l roll = some (routeE n c l roll) := by
  obtain ⟨k, rfl⟩ : ∃ j, k = j + 1 := ⟨k - 1, by omega⟩
  have j : ∀ b, spec_Route.j0 (k + 1) b n c l roll = some (if b = true then 1 else (if 0 ≤ roll ∧ roll ≤ 60 then (if 1 ≤ l.length ∧ l.length ≤ 6 then (if firstE l = 0 then all_go [] l 0 else firstE l) else 3) else 2)) := by
    intro b; cases b
    · rw [spec_Route.j0, if_neg (by decide), if_neg (by decide), has_eq, Option.bind_some]; by_cases h1 : 0 ≤ roll ∧ roll ≤ 60
      · rw [if_pos h1, decide_eq_true h1.1, decide_eq_true h1.2, if_pos (by rfl), has_eq, Option.bind_some]; by_cases h2 : 1 ≤ l.length ∧ l.length ≤ 6
        · rw [if_pos h2, decide_eq_true (by omega), decide_eq_true (by omega), if_pos (by rfl)]; have := route_l0 l n c roll h2.2 hs l.length 0 k (by omega) (by omega) (by omega)
          rwa [List.drop_zero] at this
        · rw [if_neg h2, if_neg]; simp only [Bool.and_eq_true, decide_eq_true_eq]; omega
      · rw [if_neg h1, if_neg]; simp only [Bool.and_eq_true, decide_eq_true_eq]; exact h1
    · rw [spec_Route.j0, if_pos rfl]; rfl
  unfold spec_Route.f routeE; simp only [name_eq, Option.bind_some, j]; cases shortL n.data.toList 16 <;> cases shortL c.data.toList 16 <;> rfl

theorem rrevision_eq (s : ByteArray) (hs : s.size < 281474976710656) (k : Nat) (hk : s.data.toList.length + 30 ≤ k) : damperref2_revision.f k s = some (splitV s).2.2 := by
  unfold damperref2_revision.f; rw [rsplit_eq s hs k hk, Option.bind_some]
/-- The second loop of the document's, in closed form: sums and tags that stand there twice. -/
theorem rroute_l12 (l : List S39) (n c : ByteArray) (roll : Int) (hl : l.length ≤ 6) : ∀ (m i : Nat), l.length - i = m → i ≤ l.length →
    (∀ (k : Nat) (s : Int), 8 * m + 1 ≤ k → damperref2_Route.l1 k s (i : Int) n c l roll = some (all_go (l.take i) (l.drop i) s)) ∧
    (∀ (h : i < l.length) (q j k : Nat) (s : Int), i - j = q → j ≤ i → 8 * (m - 1) + q + 2 ≤ k → damperref2_Route.l2 k s (i : Int) (j : Int) n c l roll = some (if l[i].f1.toList ≠ [] ∧ ((l.take i).drop j).any (fun y => y.f1.toList == l[i].f1.toList) = true then 5 else all_go (l.take (i + 1)) (l.drop (i + 1)) s))
  | m, i, hm, hi => by
    have B : ∀ (h : i < l.length) (q j k : Nat) (s : Int), i - j = q → j ≤ i → 8 * (m - 1) + q + 2 ≤ k → damperref2_Route.l2 k s (i : Int) (j : Int) n c l roll = some (if l[i].f1.toList ≠ [] ∧ ((l.take i).drop j).any (fun y => y.f1.toList == l[i].f1.toList) = true then 5 else all_go (l.take (i + 1)) (l.drop (i + 1)) s) := by
      intro h q
      induction q with
      | zero =>
        intro j k s hq hj hk; obtain ⟨k, rfl⟩ : ∃ j, k = j + 1 := ⟨k - 1, by omega⟩; rw [damperref2_Route.l2, if_neg (by omega), w64_small _ (by omega) (by omega), List.drop_of_length_le (by rw [List.length_take]; omega)]; rw [show ((i : Int) + 1) = ((i + 1 : Nat) : Int) by omega, (rroute_l12 l n c roll hl (m - 1) (i + 1) (by omega) (by omega)).1 k s (by omega)]; simp
      | succ q ih =>
        intro j k s hq hj hk; obtain ⟨k, rfl⟩ : ∃ j, k = j + 1 := ⟨k - 1, by omega⟩; (have hji : j < i := by omega); (have hjl : j < (l.take i).length := by rw [List.length_take]; omega); rw [damperref2_Route.l2, if_pos (by omega), if_pos (by omega), if_pos (by omega), rd_at l i h, w64_small _ (by omega) (by omega), show ((j : Int) + 1) = ((j + 1 : Nat) : Int) by omega]; have hn := ih (j + 1) k s (by omega) (by omega) (by omega); rw [List.drop_eq_getElem_cons hjl, List.any_cons, List.getElem_take]; by_cases ht : l[i].f1.toList = []
        · rw [if_pos ht, hn, if_neg (fun hh => hh.1 ht), if_neg (fun hh => hh.1 ht)]
        · rw [if_neg ht, if_pos (by omega), if_pos (by omega), rd_at l j (by omega)]; by_cases he : l[i].f1.toList = l[j].f1.toList
          · rw [if_pos he, if_pos ⟨ht, by rw [he]; simp⟩]
          · rw [if_neg he, hn, beq_eq_false_iff_ne.2 (fun e => he e.symm), Bool.false_or]
    refine ⟨?_, B⟩; intro k s hk; obtain ⟨k, rfl⟩ : ∃ j, k = j + 1 := ⟨k - 1, by omega⟩; rw [damperref2_Route.l1]; by_cases h : i < l.length
    · rw [if_pos (by omega), if_pos (by omega), rd_at l i h, show (0 : Int) = ((0 : Nat) : Int) from rfl, B h i 0 k _ (by omega) (by omega) (by omega), List.drop_zero, List.drop_eq_getElem_cons h, all_go, ← List.take_succ_eq_append_getElem h]
    · rw [if_neg (by omega), List.drop_of_length_le (by omega), all_go]
      split <;> rfl
  termination_by m => m
theorem rroute_l0 (l : List S39) (n c : ByteArray) (roll : Int) (hl : l.length ≤ 6) (B : Nat) (hs : ∀ t ∈ l, t.f0.size < 281474976710656 ∧ t.f1.size < 4611686018427387904 ∧ t.f0.data.toList.length + 30 ≤ B ∧ t.f1.data.toList.length + 30 ≤ B) : ∀ (m i k : Nat), l.length - i = m → i ≤ l.length → B + 60 + 2 * m ≤ k →
    damperref2_Route.l0 k (i : Int) n c l roll = some (if firstE (l.drop i) = 0 then all_go [] l 0 else firstE (l.drop i))
  | m, i, k, hm, hi, hk => by
    obtain ⟨k, rfl⟩ : ∃ j, k = j + 2 := ⟨k - 2, by omega⟩; rw [damperref2_Route.l0]; by_cases h : i < l.length
    · have j : ∀ b t0 t1 t2, damperref2_Route.j3 (k + 1) (i : Int) b n c l roll t0 t1 t2 = if b = true then some 1 else if 0 ≤ t2 ∧ t2 ≤ 100 then damperref2_Route.l0 k ((i + 1 : Nat) : Int) n c l roll else some 2 := by
        intro b t0 t1 t2; rw [damperref2_Route.j3, w64_small _ (by omega) (by omega)]; cases b
        · simp only [Bool.false_eq_true, if_false]; by_cases h1 : t2 < 0
          · rw [if_pos h1, if_neg (by omega)]
          · rw [if_neg h1]; by_cases h2 : t2 > 100
            · rw [if_pos h2, if_neg (by omega)]
            · rw [if_neg h2, if_pos (by omega)]; rfl
        · rw [if_pos rfl, if_pos rfl]
      obtain ⟨b0, b1, b2, b3⟩ := hs _ (List.getElem_mem h); rw [if_pos (by omega), if_pos (by omega), rd_at l i h, List.drop_eq_getElem_cons h, firstE]; simp only [j, rrevision_eq _ b0 (k + 1) (by omega), rtag_eq _ b1 (k + 1) (by omega), Option.bind_some]; rw [rroute_l0 l n c roll hl B hs (m - 1) (i + 1) k (by omega) (by omega) (by omega)]; unfold tgE tgt; generalize (splitV l[i].f0).2.2 = sp; generalize shortL l[i].f1.data.toList 8 = tg; by_cases e0 : l[i].f0.toList = [] <;> by_cases e1 : l[i].f1.toList = [] <;> by_cases e2 : 0 ≤ l[i].f2 ∧ l[i].f2 ≤ 100 <;> cases sp <;> cases tg <;> simp [e0, e1, e2]
    · rw [if_neg (by omega), List.drop_of_length_le (by omega)]; have := (rroute_l12 l n c roll hl l.length 0 (by omega) (by omega)).1 (k + 1) 0 (by omega); rw [List.take_zero, List.drop_zero] at this; exact this
theorem rroute_eq (k B : Nat) (hk : B + 80 ≤ k) (n c : ByteArray) (l : List S39) (roll : Int) (hn : n.size < 4611686018427387904 ∧ n.data.toList.length + 30 ≤ B) (hc : c.size < 4611686018427387904 ∧ c.data.toList.length + 30 ≤ B)
    (hs : ∀ t ∈ l, t.f0.size < 281474976710656 ∧ t.f1.size < 4611686018427387904 ∧ t.f0.data.toList.length + 30 ≤ B ∧ t.f1.data.toList.length + 30 ≤ B) : damperref2_Route.f k n c l roll = some (routeE n c l roll) := by
  obtain ⟨k, rfl⟩ : ∃ j, k = j + 2 := ⟨k - 2, by omega⟩
  have j1 : ∀ b, damperref2_Route.j1 (k + 1) b n c l roll = some (if b = true then 2 else (if 1 ≤ l.length ∧ l.length ≤ 6 then (if firstE l = 0 then all_go [] l 0 else firstE l) else 3)) := by
    intro b; cases b
    · rw [damperref2_Route.j1]; simp only [Bool.false_eq_true, if_false]; by_cases h1 : (l.length : Int) < 1
      · rw [if_pos h1, if_neg (by omega)]
      · rw [if_neg h1]; by_cases h2 : (l.length : Int) > 6
        · rw [if_pos h2, if_neg (by omega)]
        · rw [if_neg h2, if_pos (by omega)]; have := rroute_l0 l n c roll (by omega) B hs l.length 0 k (by omega) (by omega) (by omega)
          rwa [List.drop_zero] at this
    · rw [damperref2_Route.j1, if_pos rfl]; rfl
  have j0 : ∀ b, damperref2_Route.j0 (k + 2) b n c l roll = some (if b = true then 1 else (if 0 ≤ roll ∧ roll ≤ 60 then (if 1 ≤ l.length ∧ l.length ≤ 6 then (if firstE l = 0 then all_go [] l 0 else firstE l) else 3) else 2)) := by
    intro b; cases b
    · rw [damperref2_Route.j0]; simp only [Bool.false_eq_true, if_false]; by_cases h1 : roll < 0
      · rw [if_pos h1, j1, if_pos rfl, if_neg (by omega)]
      · rw [if_neg h1, j1]; by_cases h2 : roll > 60
        · rw [decide_eq_true h2, if_pos rfl, if_neg (by omega)]
        · rw [decide_eq_false h2, if_neg (by decide), if_pos (show 0 ≤ roll ∧ roll ≤ 60 by omega)]
    · rw [damperref2_Route.j0, if_pos rfl]; rfl
  unfold damperref2_Route.f routeE; rw [rname_eq n hn.1 _ (by omega), rname_eq c hc.1 _ (by omega)]; simp only [Option.bind_some, j0]; cases shortL n.data.toList 16 <;> cases shortL c.data.toList 16 <;> rfl

/-- The names of configurations that the statements draw from. -/
def cnames : List ByteArray := [(⟨#[119, 101, 98]⟩ : ByteArray), (⟨#[97, 112, 105]⟩ : ByteArray), (⟨#[97, 45, 98]⟩ : ByteArray)]
def fnames : List ByteArray := [(⟨#[102, 114, 111, 110, 116]⟩ : ByteArray), (⟨#[98, 97, 99, 107]⟩ : ByteArray), (⟨#[114, 45, 49]⟩ : ByteArray)]
theorem three {P : Int → Prop} (h0 : P 0) (h1 : P 1) (h2 : P 2) : ∀ t : Int, 0 ≤ t → t < 3 → P t := by
  intro t a b; rcases (show t = 0 ∨ t = 1 ∨ t = 2 by omega) with rfl | rfl | rfl
  · exact h0
  · exact h1
  · exact h2
theorem cname_ok : ∀ t : Int, 0 ≤ t → t < 3 → shortL (rdOf ByteArray.empty cnames t).data.toList 16 = true ∧ (rdOf ByteArray.empty cnames t).size ≤ 3 :=
  three (by decide) (by decide) (by decide)
theorem fname_ok : ∀ t : Int, 0 ≤ t → t < 3 → shortL (rdOf ByteArray.empty fnames t).data.toList 16 = true ∧ (rdOf ByteArray.empty fnames t).size ≤ 5 :=
  three (by decide) (by decide) (by decide)
/-- Any numbers make a configuration that may be. -/
theorem config_ok (nm : ByteArray) (img conc mn mx gr name : Int) : ∃ n i c m x g, damperlaw2_Config.f nm img conc mn mx gr name = some (n, i, c, m, x, g) ∧
    (shortL n.data.toList 16 = true ∧ n.size ≤ 3) ∧ 0 ≤ i ∧ i ≤ 255 ∧ 1 ≤ c ∧ c ≤ 8 ∧ 1 ≤ x ∧ x ≤ 10 ∧ 0 ≤ m ∧ m ≤ x ∧ 0 ≤ g ∧ g ≤ 30 := by
  have w1 := wi_in name 3 (by decide) (by decide); have w2 := wi_in img 256 (by decide) (by decide); have w3 := wi_in conc 8 (by decide) (by decide); have w4 := wi_in mx 10 (by decide) (by decide); have w5 := wi_in gr 31 (by decide) (by decide); have hn := cname_ok (wi name 3) w1.1 w1.2; unfold damperlaw2_Config.f; rw [Option.bind_some, if_pos w1.1]; rw [if_pos (show wi name 3 < ((([(⟨#[119, 101, 98]⟩ : ByteArray), (⟨#[97, 112, 105]⟩ : ByteArray), (⟨#[97, 45, 98]⟩ : ByteArray)] : List ByteArray).length : Nat) : Int) from w1.2)]; generalize wi name 3 = t1 at w1 hn ⊢; generalize wi img 256 = t2 at w2 ⊢; generalize wi conc 8 = t3 at w3 ⊢; generalize wi mx 10 = t4 at w4 ⊢; generalize wi gr 31 = t5 at w5 ⊢; rw [w64_small (1 + t3) (by omega) (by omega), w64_small (1 + t4) (by omega) (by omega), w64_small (1 + t4 + 1) (by omega) (by omega), if_neg (by omega)]; have w6 := wi_in mn (1 + t4 + 1) (by omega) (by omega); generalize wi mn (1 + t4 + 1) = t6 at w6 ⊢; exact ⟨_, _, _, _, _, _, rfl, hn, by omega, by omega, by omega, by omega, by omega, by omega, by omega, by omega, by omega, by omega⟩
theorem cfgE_ok {n : ByteArray} {i c m x g : Int} (h : (shortL n.data.toList 16 = true ∧ n.size ≤ 3) ∧ 0 ≤ i ∧ i ≤ 255 ∧ 1 ≤ c ∧ c ≤ 8 ∧ 1 ≤ x ∧ x ≤ 10 ∧ 0 ≤ m ∧ m ≤ x ∧ 0 ≤ g ∧ g ≤ 30) : cfgE n.data.toList i c m x g = 0 := by
  unfold cfgE; rw [if_pos h.1.1, if_pos (cfgOk_yes h.2)]
/-- The target at place j: what it may be. -/
def GoodT (cf : ByteArray) (j : Nat) (t : S39) : Prop :=
  (t.f0 = ⟨#[]⟩ ∨ ∃ d : Nat, d < 4 ∧ t.f0.data.toList = cf.data.toList ++ 45 :: [UInt8.ofNat (49 + d)]) ∧ (t.f1 = ⟨#[]⟩ ∨ t.f1 = (⟨#[116]⟩ : ByteArray) ++ ⟨#[UInt8.ofNat (48 + j)]⟩) ∧ 0 ≤ t.f2 ∧ t.f2 ≤ 100
def psum : List S39 → Int
  | [] => 0
  | t :: ts => t.f2 + psum ts
theorem psum_snoc : ∀ (l : List S39) (t : S39), psum (l ++ [t]) = psum l + t.f2
  | [], t => by simp [psum]
  | x :: xs, t => by rw [List.cons_append, psum, psum_snoc xs t, psum]; omega
def GoodL (cf : ByteArray) (l : List S39) : Prop := ∀ (j : Nat) (h : j < l.length), GoodT cf j l[j]
theorem GoodL.snoc {cf : ByteArray} {l : List S39} {t : S39} (h : GoodL cf l) (ht : GoodT cf l.length t) : GoodL cf (l ++ [t]) := by
  intro j hj; rw [List.length_append] at hj; by_cases e : j < l.length
  · rw [List.getElem_append_left e]; exact h j e
  · obtain rfl : j = l.length := by simp at hj; omega
    simpa using ht
theorem one_byte (v : Int) (h0 : 0 ≤ v) (h1 : v < 256) : strOfNums [v] = ⟨#[UInt8.ofNat v.toNat]⟩ := by
  obtain ⟨n, rfl⟩ := Int.eq_ofNat_of_zero_le h0; rfl
theorem gen_j4 (k : Nat) (ns : List Int) (left n : Int) (i : Nat) (v : Int) (nm cf : ByteArray) (acc : List S39) (roll : Int) (r0 : ByteArray) (p : Int) (hi : i ≤ 100) (ha : acc.length ≤ 100) (h0 : 0 ≤ p) (h1 : p ≤ left) (h2 : left ≤ 100) :
    ∃ tag, (tag = ⟨#[]⟩ ∨ tag = (⟨#[116]⟩ : ByteArray) ++ ⟨#[UInt8.ofNat (48 + i)]⟩) ∧ damperlaw2_Route.j4 (k + 1) ns left n (i : Int) v nm cf acc roll r0 ⟨#[]⟩ p = damperlaw2_Route.l0 k ns (left - p) n ((i + 1 : Nat) : Int) nm cf (acc ++ [⟨r0, tag, p⟩]) roll := by
  rw [damperlaw2_Route.j4, w64_small (left - p) (by omega) (by omega), w64_small ((i : Int) + 1) (by omega) (by omega), w64_small (48 + (i : Int)) (by omega) (by omega), show (48 + (i : Int)) % 256 = 48 + (i : Int) by omega]; by_cases hw : wi (wrap64 (Int.tdiv v 1212)) 3 = 0
  · rw [if_pos hw, Option.bind_some, one_byte _ (by omega) (by omega), show (48 + (i : Int)).toNat = 48 + i by omega, if_pos (by show 1 + 1 ≤ _; omega), if_pos (by omega)]; exact ⟨_, .inr rfl, rfl⟩
  · rw [if_neg hw, if_pos (by omega)]; exact ⟨_, .inl rfl, rfl⟩
theorem gen_j3 (k : Nat) (ns : List Int) (left n : Int) (i : Nat) (v : Int) (nm cf : ByteArray) (acc : List S39) (roll : Int) (p : Int) (hi : i ≤ 100) (ha : acc.length ≤ 100) (h0 : 0 ≤ p) (h1 : p ≤ left) (h2 : left ≤ 100) (hc : cf.size ≤ 3) :
    ∃ t, GoodT cf i t ∧ t.f2 = p ∧ damperlaw2_Route.j3 (k + 2) ns left n (i : Int) v nm cf acc roll ⟨#[]⟩ ⟨#[]⟩ p = damperlaw2_Route.l0 k ns (left - p) n ((i + 1 : Nat) : Int) nm cf (acc ++ [t]) roll := by
  rw [damperlaw2_Route.j3]; by_cases hw : wi (wrap64 (Int.tdiv v 101)) 3 > 0
  · have w := wi_in (wrap64 (Int.tdiv v 303)) 4 (by decide) (by decide); generalize wi (wrap64 (Int.tdiv v 303)) 4 = d at w ⊢; obtain ⟨d, rfl⟩ := Int.eq_ofNat_of_zero_le w.1; rw [if_pos hw, if_pos (by omega), Option.bind_some, w64_small (49 + (d : Int)) (by omega) (by omega), show (49 + (d : Int)) % 256 = 49 + (d : Int) by omega, one_byte _ (by omega) (by omega), show (49 + (d : Int)).toNat = 49 + d by omega]; (have e : (cf ++ (⟨#[45]⟩ : ByteArray)).size = cf.size + 1 := by rw [ByteArray.size_append]; rfl); have e2 : (⟨#[UInt8.ofNat (49 + d)]⟩ : ByteArray).size = 1 := rfl; rw [e, e2, if_pos (by omega)]; obtain ⟨tag, ht, e3⟩ := gen_j4 k ns left n i v nm cf acc roll (cf ++ ⟨#[45]⟩ ++ ⟨#[UInt8.ofNat (49 + d)]⟩) p hi ha h0 h1 h2; exact ⟨⟨_, tag, p⟩, ⟨.inr ⟨d, by omega, by simp⟩, ht, h0, by show p ≤ 100; omega⟩, rfl, e3⟩
  · rw [if_neg hw]; obtain ⟨tag, ht, e3⟩ := gen_j4 k ns left n i v nm cf acc roll ⟨#[]⟩ p hi ha h0 h1 h2; exact ⟨⟨_, tag, p⟩, ⟨.inl rfl, ht, h0, by show p ≤ 100; omega⟩, rfl, e3⟩
theorem gen_l0 (ns : List Int) (hns : ns.length ≤ 9223372036854775807) (n : Nat) (nm cf : ByteArray) (roll : Int) (hn : n ≤ 6) (hc : cf.size ≤ 3) : ∀ (m i k : Nat) (left : Int) (acc : List S39), n - i = m → i ≤ n → 4 * m + 1 ≤ k → 0 ≤ left → left ≤ 100 → acc.length = i → GoodL cf acc → psum acc = 100 - left →
    ∃ l, damperlaw2_Route.l0 k ns left (n : Int) (i : Int) nm cf acc roll = some (nm, cf, l, roll) ∧ l.length = n ∧ GoodL cf l ∧ (0 < m → psum l = 100) ∧ (m = 0 → psum l = 100 - left)
  | m, i, k, left, acc, hm, hi, hk, h0, h1, ha, hg, hp => by
    obtain ⟨k, rfl⟩ : ∃ j, k = j + 1 := ⟨k - 1, by omega⟩; rw [damperlaw2_Route.l0, w64_small ((i : Int) + 1) (by omega) (by omega)]; by_cases h : i < n
    · have main : ∀ v, ∃ l, damperlaw2_Route.j2 k ns left (n : Int) (i : Int) v nm cf acc roll = some (nm, cf, l, roll) ∧ l.length = n ∧ GoodL cf l ∧ (0 < m → psum l = 100) ∧ (m = 0 → psum l = 100 - left) := by
        intro v; obtain ⟨k, rfl⟩ : ∃ j, k = j + 3 := ⟨k - 3, by omega⟩; rw [damperlaw2_Route.j2, w64_small (left + 1) (by omega) (by omega), w64_small ((n : Int) - 1) (by omega) (by omega), if_neg (by omega)]; by_cases hl : (i : Int) = (n : Int) - 1
        · rw [if_pos hl]; obtain ⟨t, ht, hf, e⟩ := gen_j3 k ns left n i v nm cf acc roll left (by omega) (by omega) h0 (Int.le_refl _) h1 hc; rw [e]; obtain ⟨l, e1, e2, e3, e4, e5⟩ := gen_l0 ns hns n nm cf roll hn hc (m - 1) (i + 1) k (left - left) (acc ++ [t]) (by omega) (by omega) (by omega) (by omega) (by omega) (by simp [ha]) (hg.snoc (ha ▸ ht)) (by rw [psum_snoc, hf]; omega); exact ⟨l, e1, e2, e3, fun _ => by have := e5 (by omega); omega, fun hh => by omega⟩
        · rw [if_neg hl]; have w := wi_in v (left + 1) (by omega) (by omega); generalize wi v (left + 1) = p at w ⊢; obtain ⟨t, ht, hf, e⟩ := gen_j3 k ns left n i v nm cf acc roll p (by omega) (by omega) w.1 (by omega) h1 hc; rw [e]; obtain ⟨l, e1, e2, e3, e4, e5⟩ := gen_l0 ns hns n nm cf roll hn hc (m - 1) (i + 1) k (left - p) (acc ++ [t]) (by omega) (by omega) (by omega) (by omega) (by omega) (by simp [ha]) (hg.snoc (ha ▸ ht)) (by rw [psum_snoc, hf]; omega); exact ⟨l, e1, e2, e3, fun _ => e4 (by omega), fun hh => by omega⟩
      rw [if_pos (by omega)]; by_cases hb : (i : Int) + 1 < (ns.length : Int)
      · rw [if_pos hb, if_pos (by omega)]; exact main _
      · rw [if_neg hb]; exact main _
    · rw [if_neg (by omega)]; exact ⟨acc, rfl, by omega, hg, fun hh => by omega, fun _ => hp⟩
/-- Any numbers make a route: its name, its configuration's, its targets, its time. -/
theorem gen_ok (k : Nat) (hk : 40 ≤ k) (a0 : Int) (ns : List Int) (hns : ns.length ≤ 9223372036854775807) (a2 : Int) : ∃ nm cf l roll, damperlaw2_Route.f k a0 ns a2 = some (nm, cf, l, roll) ∧ (shortL nm.data.toList 16 = true ∧ nm.size ≤ 5) ∧ ((∃ t, 0 ≤ t ∧ t < 3 ∧ cf = rdOf ByteArray.empty cnames t) ∧ shortL cf.data.toList 16 = true ∧ cf.size ≤ 3) ∧ (0 ≤ roll ∧ roll ≤ 60) ∧ (1 ≤ l.length ∧ l.length ≤ 6) ∧ GoodL cf l ∧ psum l = 100 := by
  have w1 := wi_in a0 3 (by decide) (by decide); have w2 := wi_in (wrap64 (Int.tdiv a0 3)) 3 (by decide) (by decide); have w3 := wi_in a2 61 (by decide) (by decide); have hn := fname_ok (wi a0 3) w1.1 w1.2; have hc := cname_ok (wi (wrap64 (Int.tdiv a0 3)) 3) w2.1 w2.2
  have j : ∀ n : Nat, 1 ≤ n → n ≤ 6 → ∃ l, damperlaw2_Route.j0 k ns 100 (n : Int) (rdOf ByteArray.empty fnames (wi a0 3)) (rdOf ByteArray.empty cnames (wi (wrap64 (Int.tdiv a0 3)) 3)) (wi a2 61) = some (rdOf ByteArray.empty fnames (wi a0 3), rdOf ByteArray.empty cnames (wi (wrap64 (Int.tdiv a0 3)) 3), l, wi a2 61) ∧ l.length = n ∧ GoodL (rdOf ByteArray.empty cnames (wi (wrap64 (Int.tdiv a0 3)) 3)) l ∧ psum l = 100 := by
    intro n h1 h6; obtain ⟨k, rfl⟩ : ∃ j, k = j + 1 := ⟨k - 1, by omega⟩; rw [damperlaw2_Route.j0]; obtain ⟨l, e1, e2, e3, e4, _⟩ := gen_l0 ns hns n (rdOf ByteArray.empty fnames (wi a0 3)) (rdOf ByteArray.empty cnames (wi (wrap64 (Int.tdiv a0 3)) 3)) (wi a2 61) h6 hc.2 n 0 k 100 [] (by omega) (by omega) (by omega) (by omega) (by omega) rfl (fun j h => absurd h (Nat.not_lt_zero _)) (by rfl); exact ⟨l, e1, e2, e3, e4 (by omega)⟩
  have fin : ∀ n : Nat, 1 ≤ n → n ≤ 6 → ∃ nm cf l roll, damperlaw2_Route.j0 k ns 100 (n : Int) (rdOf ByteArray.empty fnames (wi a0 3)) (rdOf ByteArray.empty cnames (wi (wrap64 (Int.tdiv a0 3)) 3)) (wi a2 61) = some (nm, cf, l, roll) ∧ (shortL nm.data.toList 16 = true ∧ nm.size ≤ 5) ∧ ((∃ t, 0 ≤ t ∧ t < 3 ∧ cf = rdOf ByteArray.empty cnames t) ∧ shortL cf.data.toList 16 = true ∧ cf.size ≤ 3) ∧ (0 ≤ roll ∧ roll ≤ 60) ∧ (1 ≤ l.length ∧ l.length ≤ 6) ∧ GoodL cf l ∧ psum l = 100 := by
    intro n h1 h6; obtain ⟨l, e1, e2, e3, e4⟩ := j n h1 h6; exact ⟨_, _, l, _, e1, hn, ⟨⟨_, w2.1, w2.2, rfl⟩, hc⟩, ⟨w3.1, by omega⟩, by omega, e3, e4⟩
  unfold damperlaw2_Route.f; change ∃ nm cf l roll, (if 0 ≤ wi a0 3 then (if wi a0 3 < (3 : Int) then (if 0 ≤ wi (wrap64 (Int.tdiv a0 3)) 3 then (if wi (wrap64 (Int.tdiv a0 3)) 3 < (3 : Int) then (if (ns.length : Int) > 0 then (if 0 < (ns.length : Int) then damperlaw2_Route.j0 k ns 100 (wrap64 (1 + wi (rd ns 0) 6)) (rdOf ByteArray.empty fnames (wi a0 3)) (rdOf ByteArray.empty cnames (wi (wrap64 (Int.tdiv a0 3)) 3)) (wi a2 61) else none) else damperlaw2_Route.j0 k ns 100 1 (rdOf ByteArray.empty fnames (wi a0 3)) (rdOf ByteArray.empty cnames (wi (wrap64 (Int.tdiv a0 3)) 3)) (wi a2 61)) else none) else none) else none) else none) = _ ∧ _; rw [if_pos w1.1, if_pos w1.2, if_pos w2.1, if_pos w2.2]; by_cases hl : (ns.length : Int) > 0
  · have w4 := wi_in (rd ns 0) 6 (by decide) (by decide); rw [if_pos hl, if_pos hl]; generalize wi (rd ns 0) 6 = q at w4 ⊢; obtain ⟨q, rfl⟩ := Int.eq_ofNat_of_zero_le w4.1; rw [w64_small _ (by omega) (by omega), show (1 + (q : Int)) = ((1 + q : Nat) : Int) by omega]; exact fin (1 + q) (by omega) (by omega)
  · rw [if_neg hl]; exact fin 1 (by omega) (by omega)

theorem dig6_one (d : Nat) (h : d < 4) : dig 6 (1 + d) = [UInt8.ofNat (49 + d)] := by
  rcases (show d = 0 ∨ d = 1 ∨ d = 2 ∨ d = 3 by omega) with rfl | rfl | rfl | rfl <;> decide
theorem nil_tl : (⟨#[]⟩ : ByteArray).toList = [] := by rw [Lib.toList_data]
theorem good_tgE {cf : ByteArray} (hc : shortL cf.data.toList 16 = true) {j : Nat} (hj : j < 10) {t : S39} (h : GoodT cf j t) : tgE t = 0 := by
  obtain ⟨h0, h1, h2⟩ := h
  have a : ¬ (t.f0.toList ≠ [] ∧ (splitV t.f0).2.2 = false) := by
    rintro ⟨b1, b2⟩; rcases h0 with h0 | ⟨d, hd, h0⟩
    · rw [h0] at b1; exact b1 nil_tl
    · rw [splitV_parts t.f0 cf.data.toList (1 + d) ⟨hc, by omega, by omega, by rw [dig6_one d hd]; exact h0⟩] at b2; cases b2
  have b : ¬ (t.f1.toList ≠ [] ∧ shortL t.f1.data.toList 8 = false) := by
    rintro ⟨b1, b2⟩; rcases h1 with h1 | h1
    · rw [h1] at b1; exact b1 nil_tl
    · rw [h1] at b2; revert b2; (have : ∀ j : Nat, j < 10 → ¬ (shortL ((⟨#[116]⟩ : ByteArray) ++ ⟨#[UInt8.ofNat (48 + j)]⟩).data.toList 8 = false) := by decide); exact this j hj
  unfold tgE tgt; rw [if_neg a, if_neg b, if_pos h2]
theorem good_size {cf : ByteArray} (hc : cf.size ≤ 3) {j : Nat} {t : S39} (h : GoodT cf j t) : t.f0.size ≤ 5 ∧ t.f1.size ≤ 2 := by
  obtain ⟨h0, h1, _⟩ := h; constructor
  · rcases h0 with h0 | ⟨d, hd, h0⟩
    · rw [h0]; exact Nat.zero_le _
    · have : t.f0.size = t.f0.data.toList.length := rfl; rw [this, h0]; have : cf.size = cf.data.toList.length := rfl; simp; omega
  · rcases h1 with h1 | h1
    · rw [h1]; exact Nat.zero_le _
    · rw [h1, ByteArray.size_append]; exact Nat.le_refl 2
theorem firstE_zero {l : List S39} (h : ∀ t ∈ l, tgE t = 0) : firstE l = 0 := by
  induction l with
  | nil => rfl
  | cons t ts ih => rw [firstE, if_pos (h t (by simp)), ih (fun x hx => h x (by simp [hx]))]
theorem GoodL.tg {cf : ByteArray} (hc : shortL cf.data.toList 16 = true) {l : List S39} (hl : l.length ≤ 6) (h : GoodL cf l) : ∀ t ∈ l, tgE t = 0 := by
  intro t ht; obtain ⟨i, hi, rfl⟩ := List.getElem_of_mem ht; exact good_tgE hc (by omega) (h i hi)
/-- No tag stands there twice. -/
def Once (l : List S39) : Prop := ∀ (i j : Nat) (hi : i < l.length) (hj : j < l.length), i < j → l[j].f1.toList ≠ [] → (l[i].f1.toList == l[j].f1.toList) = false
theorem GoodL.once {cf : ByteArray} {l : List S39} (hl : l.length ≤ 6) (h : GoodL cf l) : Once l := by
  intro i j hi hj hij hne; obtain ⟨_, h1, _⟩ := h i hi; obtain ⟨_, h2, _⟩ := h j hj; generalize l[i].f1 = x at h1 ⊢; generalize l[j].f1 = y at h2 hne ⊢; rcases h2 with rfl | rfl
  · exact absurd nil_tl hne
  rcases h1 with rfl | rfl
  · rw [nil_tl, Lib.toList_data]; simp
  · (have : ∀ i : Nat, i < 6 → ∀ j : Nat, j < 6 → i < j → (((⟨#[116]⟩ : ByteArray) ++ ⟨#[UInt8.ofNat (48 + i)]⟩).data.toList == ((⟨#[116]⟩ : ByteArray) ++ ⟨#[UInt8.ofNat (48 + j)]⟩).data.toList) = false := by decide); rw [Lib.toList_data, Lib.toList_data]; exact this i (by omega) j (by omega) hij
theorem all_sum : ∀ (ts pre : List S39) (s : Int) (c : Nat), Once (pre ++ ts) → (∀ t ∈ ts, -200 ≤ t.f2 ∧ t.f2 ≤ 200) → -(200 * (c : Int)) ≤ s → s ≤ 200 * (c : Int) → c + ts.length ≤ 100 → all_go pre ts s = if s + psum ts = 100 then 0 else 4
  | [], pre, s, _, _, _, _, _, _ => by rw [all_go, psum, Int.add_zero]
  | t :: ts, pre, s, c, ho, hb, h0, h1, hl => by
    have hb1 := hb t (by simp); rw [List.length_cons] at hl
    have hno : ¬ (t.f1.toList ≠ [] ∧ pre.any (fun y => y.f1.toList == t.f1.toList) = true) := by
      rintro ⟨a, b⟩; obtain ⟨y, hy, he⟩ := List.any_eq_true.1 b; obtain ⟨i, hi, rfl⟩ := List.getElem_of_mem hy; have e1 : (pre ++ t :: ts)[i]'(by simp; omega) = pre[i] := List.getElem_append_left hi; (have e2 : (pre ++ t :: ts)[pre.length]'(by simp) = t := by simp); have := ho i pre.length (by simp; omega) (by simp) hi (by rw [e2]; exact a); rw [e1, e2, he] at this; cases this
    rw [all_go, if_neg hno, w64_small _ (by omega) (by omega), psum]; rw [all_sum ts (pre ++ [t]) (s + t.f2) (c + 1) (by rw [List.append_assoc]; exact ho) (fun x hx => hb x (by simp [hx])) (by omega) (by omega) (by omega), show s + t.f2 + psum ts = s + (t.f2 + psum ts) by omega]

theorem digits_eq : ∀ (j u k : Nat), u < 10 ^ (j + 1) → u < 1000000000 → j ≤ 10 → j + 1 ≤ k → damperref1_Digits.f k (u : Int) = some ⟨(dig (j + 1) u).toArray⟩
  | j, u, k, hu, hb, hj, hk => by
    obtain ⟨k, rfl⟩ : ∃ i, k = i + 1 := ⟨k - 1, by omega⟩; rw [damperref1_Digits.f, dig, if_neg (by omega)]; by_cases h : u < 10
    · rw [if_neg (by omega), if_pos h, w64_small _ (by omega) (by omega)]
      congr 1
      unfold strOfNums; (have : (((48 : Int) + (u : Int)) % 256).toNat = 48 + u := by omega); simp [this]
    · rw [if_pos (by omega), if_neg h]
      cases j with
      | zero => exact absurd hu (by omega)
      | succ j =>
        have e1 : wrap64 (Int.tdiv (u : Int) 10) = ((u / 10 : Nat) : Int) := by
          rw [show Int.tdiv (u : Int) 10 = ((u / 10 : Nat) : Int) from rfl, w64_small _ (by omega) (by omega)]
        have e2 : Int.tmod (u : Int) 10 = ((u % 10 : Nat) : Int) := rfl; have hp : u / 10 < 10 ^ (j + 1) := by rw [Nat.pow_succ] at hu; omega
        rw [e1, e2, digits_eq j (u / 10) k hp (by omega) (by omega) (by omega), Option.bind_some,
          digits_eq 0 (u % 10) k (by omega) (by omega) (by omega) (by omega), Option.bind_some]
        have l1 := dig_len (j + 1) (u / 10); have l2 := dig_len (0 + 1) (u % 10); (have z1 : (⟨(dig (j + 1) (u / 10)).toArray⟩ : ByteArray).size = (dig (j + 1) (u / 10)).length := by simp [ByteArray.size]); (have z2 : (⟨(dig (0 + 1) (u % 10)).toArray⟩ : ByteArray).size = (dig (0 + 1) (u % 10)).length := by simp [ByteArray.size]); rw [z1, z2, if_pos (by omega)]
        congr 1
        apply ba_ext; (have : dig (0 + 1) (u % 10) = [UInt8.ofNat (48 + u % 10)] := by rw [dig, if_pos (by omega)]); rw [this]; simp
theorem rrev_eq (s : ByteArray) (hs : s.size < 1000000) (g : Int) (k : Nat) (hk : s.data.toList.length + 20 ≤ k) : damperref1_Rev.f k s g = some ⟨(revL s.data.toList g).toArray⟩ := by
  unfold damperref1_Rev.f; rw [rname_eq s (by omega) k (by omega), Option.bind_some]; obtain ⟨k, rfl⟩ : ∃ i, k = i + 1 := ⟨k - 1, by omega⟩; unfold revL; by_cases h1 : shortL s.data.toList 16 = true
  · rw [if_pos h1]; by_cases h2 : g < 1
    · rw [if_pos h2, if_neg (by omega)]; rfl
    · rw [if_neg h2]; by_cases h3 : g > 999999
      · rw [decide_eq_true h3, if_neg (by omega)]; rfl
      · rw [decide_eq_false h3, if_pos ⟨h1, by omega, by omega⟩]; have hl := short_le h1; have hz : s.size = s.data.toList.length := rfl; obtain ⟨u, rfl⟩ := Int.eq_ofNat_of_zero_le (show 0 ≤ g by omega); have hi := dig_len 6 u; rw [damperref1_Rev.j0, if_neg (by decide), if_pos (by omega), digits_eq 5 u k (by omega) (by omega) (by omega) (by omega), Option.bind_some, if_pos]
        · congr 1
          apply ba_ext; simp
        · (have e : (s ++ (⟨#[45]⟩ : ByteArray)).size = s.size + 1 := by rw [ByteArray.size_append]; rfl); (have e2 : (⟨(dig (5 + 1) u).toArray⟩ : ByteArray).size = (dig (5 + 1) u).length := by simp [ByteArray.size]); have hi' : (dig (5 + 1) u).length ≤ 6 := hi; rw [e, e2]; omega
  · rw [if_neg h1, if_neg (fun h => h1 h.1)]; rfl

/-! ### What digits are worth -/

/-- What an event of a kind has: a number, a name, a tag, a draw, a configuration, a route. -/
def shp (kd : Int) : Bool × Bool × Bool × Bool × Bool × Bool × Bool :=
  if kd = 1 then (true, false, false, false, true, false, true) else if kd = 2 then (true, false, false, false, false, true, true)
  else if kd = 3 then (true, true, false, true, false, false, true) else if kd = 4 then (true, true, true, true, false, false, true)
  else if 5 ≤ kd ∧ kd ≤ 8 then (true, false, false, false, false, false, true) else if kd = 9 then (false, false, false, false, false, false, true)
  else if 10 ≤ kd ∧ kd ≤ 13 then (false, true, false, false, false, false, true) else (false, false, false, false, false, false, false)
theorem shp_eq (k : Nat) (kd : Int) : event_shape.f (k + 2) kd = some (shp kd) := by
  unfold event_shape.f shp; by_cases h1 : kd = 1
  · rw [if_pos h1, if_pos h1]
  rw [if_neg h1, if_neg h1]; by_cases h2 : kd = 2
  · rw [if_pos h2, if_pos h2]
  rw [if_neg h2, if_neg h2]; by_cases h3 : kd = 3
  · rw [if_pos h3, if_pos h3]
  rw [if_neg h3, if_neg h3]; by_cases h4 : kd = 4
  · rw [if_pos h4, if_pos h4]
  rw [if_neg h4, if_neg h4]; by_cases h5 : 5 ≤ kd ∧ kd ≤ 8
  · rw [if_pos h5]; rcases (show kd = 5 ∨ kd = 6 ∨ kd = 7 ∨ kd = 8 by omega) with rfl | rfl | rfl | rfl <;> rfl
  rw [if_neg h5, if_neg (show ¬ kd = 5 by omega), if_neg (show ¬ kd = 6 by omega), if_neg (show ¬ kd = 7 by omega), show (kd == 8) = false from beq_eq_false_iff_ne.2 (by omega), event_shape.j0, if_neg (by simp)]; by_cases h9 : kd = 9
  · rw [if_pos h9, if_pos h9]
  rw [if_neg h9, if_neg h9]; by_cases a0 : 10 ≤ kd ∧ kd ≤ 13
  · rw [if_pos a0]; rcases (show kd = 10 ∨ kd = 11 ∨ kd = 12 ∨ kd = 13 by omega) with rfl | rfl | rfl | rfl <;> rfl
  rw [if_neg a0, if_neg (show ¬ kd = 10 by omega), if_neg (show ¬ kd = 11 by omega), if_neg (show ¬ kd = 12 by omega), show (kd == 13) = false from beq_eq_false_iff_ne.2 (by omega), event_shape.j1, if_neg (by simp)]
def inB (n a b : Int) : Bool := decide (a ≤ n) && decide (n ≤ b)
theorem within_eq (n a b : Int) : event_within.f n a b = some (inB n a b) := by
  unfold event_within.f inB; by_cases h : n ≥ a
  · rw [if_pos h, decide_eq_true (show a ≤ n from h), Bool.true_and]
  · rw [if_neg h, decide_eq_false (show ¬ a ≤ n from h), Bool.false_and]
def numOk (kd n : Int) : Bool := if kd = 1 ∨ kd = 2 then inB n 0 2147483647 else if kd = 3 then inB n 1 2 else inB n 1 2147483647
theorem num_eq (k : Nat) (kd : Int) (nm tg : ByteArray) (n dr : Int) (c0 : ByteArray) (c1 c2 c3 c4 c5 : Int) (rn rc : ByteArray) (ts : List S39) (ro : Int) : event_number.f (k + 1) kd nm tg n dr c0 c1 c2 c3 c4 c5 rn rc ts ro = some (numOk kd n) := by
  unfold event_number.f numOk; by_cases h1 : kd = 1
  · subst h1; rw [if_pos rfl, event_number.j0, if_pos (by decide), within_eq]; rfl
  rw [if_neg h1, event_number.j0]; by_cases h2 : kd = 2
  · subst h2; rw [if_pos (by decide), within_eq]; rfl
  rw [if_neg (by simpa using h2), if_neg (show ¬ (kd = 1 ∨ kd = 2) by omega), within_eq, within_eq]; by_cases h3 : kd = 3
  · rw [if_pos h3, if_pos h3]; rfl
  · rw [if_neg h3, if_neg h3]; rfl
def nameOk (kd : Int) (nm : ByteArray) : Bool := if kd = 12 ∨ kd = 13 then (splitV nm).2.2 else shortL nm.data.toList 16
theorem named_eq (k : Nat) (kd : Int) (nm tg : ByteArray) (n dr : Int) (c0 : ByteArray) (c1 c2 c3 c4 c5 : Int) (rn rc : ByteArray) (ts : List S39) (ro : Int) (hn : nm.size ≤ 140737488351232) : event_named.f (k + 1) kd nm tg n dr c0 c1 c2 c3 c4 c5 rn rc ts ro = some (nameOk kd nm) := by
  unfold event_named.f nameOk; by_cases h1 : kd = 12
  · subst h1; rw [if_pos rfl, event_named.j0, if_pos rfl, split_eq nm hn]; rfl
  rw [if_neg h1, event_named.j0]; by_cases h2 : kd = 13
  · subst h2; rw [if_pos (by decide), split_eq nm hn]; rfl
  rw [if_neg (by simpa using h2), if_neg (show ¬ (kd = 12 ∨ kd = 13) by omega), name_eq]; rfl
def isNil (s : ByteArray) : Bool := s.toList == ([] : List UInt8)
def zInt (b : Bool) (n : Int) : Bool := b || n == 0
def zStr (b : Bool) (s : ByteArray) : Bool := b || isNil s
theorem zInt_eq (b : Bool) (n : Int) : event_none_int.f b n = some (zInt b n) := by cases b <;> rfl
theorem zStr_eq (b : Bool) (s : ByteArray) : event_none_string.f b s = some (zStr b s) := by cases b <;> rfl
def cfgZ (c0 : ByteArray) (c1 c2 c3 c4 c5 : Int) : Bool := c0.toList == ([] : List UInt8) && (c1 == 0 && (c2 == 0 && (c3 == 0 && (c4 == 0 && (c5 == 0)))))
theorem zCfg_eq (b : Bool) (c0 : ByteArray) (c1 c2 c3 c4 c5 : Int) : api_Config.f b c0 c1 c2 c3 c4 c5 = some (b || cfgZ c0 c1 c2 c3 c4 c5) := by cases b <;> rfl
def bareV (rn rc : ByteArray) (ts : List S39) (ro : Int) : Bool := isNil rn && (isNil rc && (ro == 0 && ts.length == 0))
theorem bare_eq (rn rc : ByteArray) (ts : List S39) (ro : Int) : event_bare.f rn rc ts ro = some (bareV rn rc ts ro) := by
  unfold event_bare.f bareV isNil; by_cases h1 : rn.toList = []
  · rw [if_pos h1, h1]; by_cases h2 : rc.toList = []
    · rw [if_pos h2, h2]; by_cases h3 : ro = 0
      · rw [if_pos h3, h3]; cases ts <;> simp; omega
      · rw [if_neg h3, show (ro == 0) = false by simpa using h3]; rfl
    · rw [if_neg h2, show (rc.toList == ([] : List UInt8)) = false by simpa using h2]; rfl
  · rw [if_neg h1, show (rn.toList == ([] : List UInt8)) = false by simpa using h1]; rfl
/-- Behind the draw: the configuration, the route. -/
def e4 (x : Bool) (c0 : ByteArray) (c1 c2 c3 c4 c5 : Int) (rn rc : ByteArray) (ts : List S39) (ro : Int) (fc fr : Bool) : Int :=
  if x = true then 2 else if fc = true then cfgE c0.data.toList c1 c2 c3 c4 c5 else if fr = true then routeE rn rc ts ro else 0
theorem j4_eq (k : Nat) (hk : 11 ≤ k) (x : Bool) (kd : Int) (nm tg : ByteArray) (n dr : Int) (c0 : ByteArray) (c1 c2 c3 c4 c5 : Int) (rn rc : ByteArray) (ts : List S39) (ro : Int) (f0 f1 f2 f3 f4 f5 : Bool) (hs : ∀ t ∈ ts, t.f0.size ≤ 140737488351232) :
    event_Check.j4 k x kd nm tg n dr c0 c1 c2 c3 c4 c5 rn rc ts ro f0 f1 f2 f3 f4 f5 = some (e4 x c0 c1 c2 c3 c4 c5 rn rc ts ro f4 f5) := by
  obtain ⟨k, rfl⟩ : ∃ j, k = j + 1 := ⟨k - 1, by omega⟩; rw [event_Check.j4, e4, route_eq k (by omega) rn rc ts ro hs]; obtain ⟨k, rfl⟩ : ∃ j, k = j + 1 := ⟨k - 1, by omega⟩; rw [cfg_eq]; cases x <;> cases f4 <;> cases f5 <;> rfl
def e3 (x : Bool) (dr : Int) (c0 : ByteArray) (c1 c2 c3 c4 c5 : Int) (rn rc : ByteArray) (ts : List S39) (ro : Int) (fd fc fr : Bool) : Int :=
  if x = true then 1 else e4 (fd && !inB dr 0 2147483647) c0 c1 c2 c3 c4 c5 rn rc ts ro fc fr
theorem j3_eq (k : Nat) (hk : 12 ≤ k) (x : Bool) (kd : Int) (nm tg : ByteArray) (n dr : Int) (c0 : ByteArray) (c1 c2 c3 c4 c5 : Int) (rn rc : ByteArray) (ts : List S39) (ro : Int) (f0 f1 f2 f3 f4 f5 : Bool) (hs : ∀ t ∈ ts, t.f0.size ≤ 140737488351232) :
    event_Check.j3 k x kd nm tg n dr c0 c1 c2 c3 c4 c5 rn rc ts ro f0 f1 f2 f3 f4 f5 = some (e3 x dr c0 c1 c2 c3 c4 c5 rn rc ts ro f3 f4 f5) := by
  obtain ⟨k, rfl⟩ : ∃ j, k = j + 1 := ⟨k - 1, by omega⟩; rw [event_Check.j3, e3, within_eq, Option.bind_some, j4_eq k (by omega) _ _ _ _ _ _ _ _ _ _ _ _ _ _ _ _ _ _ _ _ _ _ hs, j4_eq k (by omega) _ _ _ _ _ _ _ _ _ _ _ _ _ _ _ _ _ _ _ _ _ _ hs]; cases x <;> cases f3 <;> rfl
def e2 (x : Bool) (tg : ByteArray) (dr : Int) (c0 : ByteArray) (c1 c2 c3 c4 c5 : Int) (rn rc : ByteArray) (ts : List S39) (ro : Int) (ft fd fc fr : Bool) : Int :=
  if x = true then 1 else e3 (ft && (!isNil tg && !shortL tg.data.toList 8)) dr c0 c1 c2 c3 c4 c5 rn rc ts ro fd fc fr
theorem j2_eq (k : Nat) (hk : 13 ≤ k) (x : Bool) (kd : Int) (nm tg : ByteArray) (n dr : Int) (c0 : ByteArray) (c1 c2 c3 c4 c5 : Int) (rn rc : ByteArray) (ts : List S39) (ro : Int) (f0 f1 f2 f3 f4 f5 : Bool) (hs : ∀ t ∈ ts, t.f0.size ≤ 140737488351232) :
    event_Check.j2 k x kd nm tg n dr c0 c1 c2 c3 c4 c5 rn rc ts ro f0 f1 f2 f3 f4 f5 = some (e2 x tg dr c0 c1 c2 c3 c4 c5 rn rc ts ro f2 f3 f4 f5) := by
  obtain ⟨k, rfl⟩ : ∃ j, k = j + 1 := ⟨k - 1, by omega⟩; rw [event_Check.j2, e2, tag_eq, Option.bind_some, j3_eq k (by omega) _ _ _ _ _ _ _ _ _ _ _ _ _ _ _ _ _ _ _ _ _ _ hs, j3_eq k (by omega) _ _ _ _ _ _ _ _ _ _ _ _ _ _ _ _ _ _ _ _ _ _ hs]; unfold isNil; by_cases h : tg.toList = []
  · rw [if_pos h, h]; cases x <;> cases f2 <;> rfl
  · rw [if_neg h, show (tg.toList == ([] : List UInt8)) = false by simpa using h]; cases x <;> cases f2 <;> rfl
def e1 (x : Bool) (kd : Int) (nm tg : ByteArray) (dr : Int) (c0 : ByteArray) (c1 c2 c3 c4 c5 : Int) (rn rc : ByteArray) (ts : List S39) (ro : Int) (fm ft fd fc fr : Bool) : Int :=
  if x = true then 2 else e2 (fm && !nameOk kd nm) tg dr c0 c1 c2 c3 c4 c5 rn rc ts ro ft fd fc fr
theorem j1_eq (k : Nat) (hk : 14 ≤ k) (x : Bool) (kd : Int) (nm tg : ByteArray) (n dr : Int) (c0 : ByteArray) (c1 c2 c3 c4 c5 : Int) (rn rc : ByteArray) (ts : List S39) (ro : Int) (f0 f1 f2 f3 f4 f5 : Bool) (hn : nm.size ≤ 140737488351232) (hs : ∀ t ∈ ts, t.f0.size ≤ 140737488351232) :
    event_Check.j1 k x kd nm tg n dr c0 c1 c2 c3 c4 c5 rn rc ts ro f0 f1 f2 f3 f4 f5 = some (e1 x kd nm tg dr c0 c1 c2 c3 c4 c5 rn rc ts ro f1 f2 f3 f4 f5) := by
  obtain ⟨k, rfl⟩ : ∃ j, k = j + 1 := ⟨k - 1, by omega⟩; rw [event_Check.j1, e1, j2_eq k (by omega) _ _ _ _ _ _ _ _ _ _ _ _ _ _ _ _ _ _ _ _ _ _ hs]; obtain ⟨k, rfl⟩ : ∃ j, k = j + 1 := ⟨k - 1, by omega⟩; rw [named_eq k _ _ _ _ _ _ _ _ _ _ _ _ _ _ _ hn, Option.bind_some, j2_eq (k + 1) (by omega) _ _ _ _ _ _ _ _ _ _ _ _ _ _ _ _ _ _ _ _ _ _ hs]; cases x <;> cases f1 <;> rfl
def e0 (x : Bool) (kd : Int) (nm tg : ByteArray) (n dr : Int) (c0 : ByteArray) (c1 c2 c3 c4 c5 : Int) (rn rc : ByteArray) (ts : List S39) (ro : Int) (fn fm ft fd fc fr : Bool) : Int :=
  if x = true then 2 else e1 (fn && !numOk kd n) kd nm tg dr c0 c1 c2 c3 c4 c5 rn rc ts ro fm ft fd fc fr
theorem j0_eq (k : Nat) (hk : 15 ≤ k) (x : Bool) (kd : Int) (nm tg : ByteArray) (n dr : Int) (c0 : ByteArray) (c1 c2 c3 c4 c5 : Int) (rn rc : ByteArray) (ts : List S39) (ro : Int) (f0 f1 f2 f3 f4 f5 : Bool) (hn : nm.size ≤ 140737488351232) (hs : ∀ t ∈ ts, t.f0.size ≤ 140737488351232) :
    event_Check.j0 k x kd nm tg n dr c0 c1 c2 c3 c4 c5 rn rc ts ro f0 f1 f2 f3 f4 f5 = some (e0 x kd nm tg n dr c0 c1 c2 c3 c4 c5 rn rc ts ro f0 f1 f2 f3 f4 f5) := by
  obtain ⟨k, rfl⟩ : ∃ j, k = j + 1 := ⟨k - 1, by omega⟩; rw [event_Check.j0, e0, j1_eq k (by omega) _ _ _ _ _ _ _ _ _ _ _ _ _ _ _ _ _ _ _ _ _ _ hn hs]; obtain ⟨k, rfl⟩ : ∃ j, k = j + 1 := ⟨k - 1, by omega⟩; rw [num_eq k, Option.bind_some, j1_eq (k + 1) (by omega) _ _ _ _ _ _ _ _ _ _ _ _ _ _ _ _ _ _ _ _ _ _ hn hs]; cases x <;> cases f0 <;> rfl
/-- What is where it may not be. -/
def extra (kd : Int) (nm tg : ByteArray) (n dr : Int) (c0 : ByteArray) (c1 c2 c3 c4 c5 : Int) (rn rc : ByteArray) (ts : List S39) (ro : Int) : Bool :=
  !(zInt (shp kd).1 n && (zStr (shp kd).2.1 nm && (zStr (shp kd).2.2.1 tg && (zInt (shp kd).2.2.2.1 dr && (((shp kd).2.2.2.2.1 || cfgZ c0 c1 c2 c3 c4 c5) && ((shp kd).2.2.2.2.2.1 || bareV rn rc ts ro))))))
/-- What is wrong with an event. -/
def chkV (kd : Int) (nm tg : ByteArray) (n dr : Int) (c0 : ByteArray) (c1 c2 c3 c4 c5 : Int) (rn rc : ByteArray) (ts : List S39) (ro : Int) : Int :=
  if (shp kd).2.2.2.2.2.2 = true then e0 (extra kd nm tg n dr c0 c1 c2 c3 c4 c5 rn rc ts ro) kd nm tg n dr c0 c1 c2 c3 c4 c5 rn rc ts ro (shp kd).1 (shp kd).2.1 (shp kd).2.2.1 (shp kd).2.2.2.1 (shp kd).2.2.2.2.1 (shp kd).2.2.2.2.2.1 else 12
theorem chk_eq (k : Nat) (hk : 20 ≤ k) (kd : Int) (nm tg : ByteArray) (n dr : Int) (c0 : ByteArray) (c1 c2 c3 c4 c5 : Int) (rn rc : ByteArray) (ts : List S39) (ro : Int) (hn : nm.size ≤ 140737488351232) (hs : ∀ t ∈ ts, t.f0.size ≤ 140737488351232) :
    event_Check.f k kd nm tg n dr c0 c1 c2 c3 c4 c5 rn rc ts ro = some (chkV kd nm tg n dr c0 c1 c2 c3 c4 c5 rn rc ts ro) := by
  have hj := fun (x f0 f1 f2 f3 f4 f5 : Bool) => j0_eq k (by omega) x kd nm tg n dr c0 c1 c2 c3 c4 c5 rn rc ts ro f0 f1 f2 f3 f4 f5 hn hs; unfold event_Check.f chkV extra; obtain ⟨k, rfl⟩ : ∃ j, k = j + 2 := ⟨k - 2, by omega⟩; rw [shp_eq, Option.bind_some]; generalize shp kd = s; obtain ⟨s1, s2, s3, s4, s5, s6, s7⟩ := s; simp only [zInt_eq, zStr_eq, zCfg_eq, bare_eq, Option.bind_some, hj]; generalize zInt s1 n = b1; generalize zStr s2 nm = b2; generalize zStr s3 tg = b3; generalize zInt s4 dr = b4; generalize cfgZ c0 c1 c2 c3 c4 c5 = b5; generalize bareV rn rc ts ro = b6; cases s7
  · rfl
  · cases b1
    · rfl
    · cases b2
      · rfl
      · cases b3
        · rfl
        · cases b4
          · rfl
          · cases s5 <;> cases b5 <;> cases s6 <;> cases b6 <;> rfl

theorem good_route {nm cf : ByteArray} {l : List S39} {roll : Int} (h1 : shortL nm.data.toList 16 = true) (h2 : shortL cf.data.toList 16 = true) (hr : 0 ≤ roll ∧ roll ≤ 60) (hl : 1 ≤ l.length ∧ l.length ≤ 6) (hg : GoodL cf l) (hs : psum l = 100) : routeE nm cf l roll = 0 := by
  unfold routeE; rw [h1, h2, if_pos (by rfl), if_pos hr, if_pos hl, if_pos (firstE_zero (GoodL.tg h2 hl.2 hg)), all_sum l [] 0 0 (by simpa using GoodL.once hl.2 hg) (fun t ht => ?_) (by omega) (by omega) (by omega), if_pos (by omega)]; obtain ⟨i, hi, rfl⟩ := List.getElem_of_mem ht; have := (hg i hi).2.2; omega
/-- What an event that was made may be. -/
structure Made (kd : Int) (nm tg : ByteArray) (n dr : Int) (c0 : ByteArray) (c1 c2 c3 c4 c5 : Int) (rn rc : ByteArray) (ts : List S39) (ro : Int) : Prop where
  kind : 1 ≤ kd ∧ kd ≤ 13
  bare : extra kd nm tg n dr c0 c1 c2 c3 c4 c5 rn rc ts ro = false
  num : (shp kd).1 = true → numOk kd n = true
  name : (shp kd).2.1 = true → nameOk kd nm = true
  tag : isNil tg = true ∨ shortL tg.data.toList 8 = true
  draw : inB dr 0 2147483647 = true
  cfg : kd = 1 → (shortL c0.data.toList 16 = true ∧ c0.size ≤ 3) ∧ 0 ≤ c1 ∧ c1 ≤ 255 ∧ 1 ≤ c2 ∧ c2 ≤ 8 ∧ 1 ≤ c4 ∧ c4 ≤ 10 ∧ 0 ≤ c3 ∧ c3 ≤ c4 ∧ 0 ≤ c5 ∧ c5 ≤ 30
  route : kd = 2 → (shortL rn.data.toList 16 = true ∧ rn.size ≤ 5) ∧ (shortL rc.data.toList 16 = true ∧ rc.size ≤ 3) ∧ (0 ≤ ro ∧ ro ≤ 60) ∧ (1 ≤ ts.length ∧ ts.length ≤ 6) ∧ GoodL rc ts ∧ psum ts = 100
  small : nm.size ≤ 16 ∧ tg.size ≤ 2 ∧ 0 ≤ n ∧ n ≤ 60 ∧ (kd ≠ 2 → ts = [])
theorem Made.tsz {kd nm tg n dr c0 c1 c2 c3 c4 c5 rn rc ts ro} (h : Made kd nm tg n dr c0 c1 c2 c3 c4 c5 rn rc ts ro) : ∀ t ∈ ts, t.f0.size ≤ 5 ∧ t.f1.size ≤ 2 := by
  by_cases h2 : kd = 2
  · obtain ⟨_, ⟨_, hc⟩, _, _, hg, _⟩ := h.route h2; intro t ht; obtain ⟨i, hi, rfl⟩ := List.getElem_of_mem ht; exact good_size hc (hg i hi)
  · rw [h.small.2.2.2.2 h2]; intro t ht; cases ht
theorem chk_kind {kd : Int} (h : 1 ≤ kd ∧ kd ≤ 13) : (shp kd).2.2.2.2.2.2 = true := by
  rcases (show kd = 1 ∨ kd = 2 ∨ kd = 3 ∨ kd = 4 ∨ kd = 5 ∨ kd = 6 ∨ kd = 7 ∨ kd = 8 ∨ kd = 9 ∨ kd = 10 ∨ kd = 11 ∨ kd = 12 ∨ kd = 13 by omega) with rfl | rfl | rfl | rfl | rfl | rfl | rfl | rfl | rfl | rfl | rfl | rfl | rfl <;> rfl
/-- What is right in each part is right. -/
theorem chk_zero {kd : Int} {nm tg : ByteArray} {n dr : Int} {c0 : ByteArray} {c1 c2 c3 c4 c5 : Int} {rn rc : ByteArray} {ts : List S39} {ro : Int} (h : 1 ≤ kd ∧ kd ≤ 13) (hx : extra kd nm tg n dr c0 c1 c2 c3 c4 c5 rn rc ts ro = false)
    (h1 : (shp kd).1 = true → numOk kd n = true) (h2 : (shp kd).2.1 = true → nameOk kd nm = true) (h3 : isNil tg = true ∨ shortL tg.data.toList 8 = true) (h4 : (shp kd).2.2.2.1 = true → inB dr 0 2147483647 = true)
    (h5 : kd = 1 → cfgE c0.data.toList c1 c2 c3 c4 c5 = 0) (h6 : kd = 2 → routeE rn rc ts ro = 0) : chkV kd nm tg n dr c0 c1 c2 c3 c4 c5 rn rc ts ro = 0 := by
  have f5 : (shp kd).2.2.2.2.1 = true → kd = 1 := by
    rcases (show kd = 1 ∨ kd = 2 ∨ kd = 3 ∨ kd = 4 ∨ kd = 5 ∨ kd = 6 ∨ kd = 7 ∨ kd = 8 ∨ kd = 9 ∨ kd = 10 ∨ kd = 11 ∨ kd = 12 ∨ kd = 13 by omega) with rfl | rfl | rfl | rfl | rfl | rfl | rfl | rfl | rfl | rfl | rfl | rfl | rfl <;> decide
  have f6 : (shp kd).2.2.2.2.2.1 = true → kd = 2 := by
    rcases (show kd = 1 ∨ kd = 2 ∨ kd = 3 ∨ kd = 4 ∨ kd = 5 ∨ kd = 6 ∨ kd = 7 ∨ kd = 8 ∨ kd = 9 ∨ kd = 10 ∨ kd = 11 ∨ kd = 12 ∨ kd = 13 by omega) with rfl | rfl | rfl | rfl | rfl | rfl | rfl | rfl | rfl | rfl | rfl | rfl | rfl <;> decide
  unfold chkV; rw [if_pos (chk_kind h), hx]; generalize shp kd = s at h1 h2 h4 f5 f6 ⊢; obtain ⟨s1, s2, s3, s4, s5, s6, s7⟩ := s; simp only at h1 h2 h4 f5 f6 ⊢; (have a1 : (s1 && !numOk kd n) = false := by cases s1 <;> simp_all); (have a2 : (s2 && !nameOk kd nm) = false := by cases s2 <;> simp_all); (have a3 : (s3 && (!isNil tg && !shortL tg.data.toList 8)) = false := by rcases h3 with h3 | h3 <;> rw [h3] <;> simp); (have a4 : (s4 && !inB dr 0 2147483647) = false := by cases s4 <;> simp_all); unfold e0; rw [if_neg (by decide), a1]; unfold e1; rw [if_neg (by decide), a2]; unfold e2; rw [if_neg (by decide), a3]; unfold e3; rw [if_neg (by decide), a4]; unfold e4; rw [if_neg (by decide)]; by_cases h7 : s5 = true
  · rw [if_pos h7, h5 (f5 h7)]
  · rw [if_neg h7]; by_cases h8 : s6 = true
    · rw [if_pos h8, h6 (f6 h8)]
    · rw [if_neg h8]
theorem Made.ok {kd nm tg n dr c0 c1 c2 c3 c4 c5 rn rc ts ro} (h : Made kd nm tg n dr c0 c1 c2 c3 c4 c5 rn rc ts ro) : chkV kd nm tg n dr c0 c1 c2 c3 c4 c5 rn rc ts ro = 0 :=
  chk_zero h.kind h.bare h.num h.name h.tag (fun _ => h.draw) (fun e => cfgE_ok (h.cfg e)) (fun e => by
    obtain ⟨⟨a, _⟩, ⟨b, _⟩, c, d, f, g⟩ := h.route e
    exact good_route a b c d f g)
theorem inB_of {n a b : Int} (h0 : a ≤ n) (h1 : n ≤ b) : inB n a b = true := by unfold inB; rw [decide_eq_true h0, decide_eq_true h1]; rfl
theorem nm3_ok {x : Int} (h0 : 0 ≤ x) (h1 : x < 3) : shortL (nm3 x).data.toList 16 = true ∧ (nm3 x).size ≤ 16 := by
  rcases (show x = 0 ∨ x = 1 ∨ x = 2 by omega) with rfl | rfl | rfl <;> decide
theorem wb3_ok {x : Int} (h0 : 0 ≤ x) (h1 : x < 3) : shortL (wb3 x).data.toList 16 = true ∧ (wb3 x).size ≤ 16 := by
  rcases (show x = 0 ∨ x = 1 ∨ x = 2 by omega) with rfl | rfl | rfl <;> decide
theorem nm6_ok {x : Int} (h0 : 0 ≤ x) (h1 : x < 6) : shortL (nm6 x).data.toList 16 = true ∧ (nm6 x).size ≤ 16 := by
  rcases (show x = 0 ∨ x = 1 ∨ x = 2 ∨ x = 3 ∨ x = 4 ∨ x = 5 by omega) with rfl | rfl | rfl | rfl | rfl | rfl <;> decide
theorem tg4_ok {x : Int} (h0 : 0 ≤ x) (h1 : x < 4) : (isNil (tg4 x) = true ∨ shortL (tg4 x).data.toList 8 = true) ∧ (tg4 x).size ≤ 2 := by
  (have nil : isNil ⟨#[]⟩ = true := by unfold isNil; rw [nil_tl]; rfl); rcases (show x = 0 ∨ x = 1 ∨ x = 2 ∨ x = 3 by omega) with rfl | rfl | rfl | rfl
  · exact ⟨.inl nil, by decide⟩
  · exact ⟨.inl nil, by decide⟩
  · exact ⟨.inr (by decide), by decide⟩
  · exact ⟨.inr (by decide), by decide⟩
theorem turn_ok {x g : Int} (h0 : 0 ≤ x) (h1 : x < 3) (g0 : 1 ≤ g) (g1 : g ≤ 4) (k : Nat) (hk : 60 ≤ k) : ∃ r, damperref1_Rev.f k (wb3 x) g = some r ∧ (splitV r).2.2 = true ∧ r.size ≤ 16 := by
  have hs := wb3_ok h0 h1; have hsz : (wb3 x).data.toList.length = (wb3 x).size := rfl; rw [rrev_eq (wb3 x) (by omega) g k (by omega)]; refine ⟨_, rfl, ?_⟩; (have hrv : revL (wb3 x).data.toList g = (wb3 x).data.toList ++ 45 :: dig 6 g.toNat := by unfold revL; rw [if_pos ⟨hs.1, by omega, by omega⟩]); have hp := splitV_parts ⟨(revL (wb3 x).data.toList g).toArray⟩ (wb3 x).data.toList g.toNat ⟨hs.1, by omega, by omega, by rw [hrv]⟩; refine ⟨by rw [hp], ?_⟩; show (revL (wb3 x).data.toList g).length ≤ 16; rw [hrv]; have := dig_len 6 g.toNat; (have h3 : (wb3 x).data.toList.length ≤ 3 := by rcases (show x = 0 ∨ x = 1 ∨ x = 2 by omega) with rfl | rfl | rfl <;> decide); simp; omega
/-- Any numbers make an event that may be. -/
theorem make_ok (k : Nat) (hk : 60 ≤ k) (a0 a1 a2 a3 : Int) (a7 : ByteArray) (a8 a9 b0 b1 b3 : Int) (l5 : List Int) (hns : l5.length ≤ 9223372036854775807) :
    ∃ kd nm tg n dr c0 c1 c2 c3 c4 c5 rn rc ts ro, damperlaw3_Make.f k a0 a1 a2 a3 a7 a8 a9 b0 b1 b3 l5 = some (kd, nm, tg, n, dr, c0, c1, c2, c3, c4, c5, rn, rc, ts, ro) ∧ Made kd nm tg n dr c0 c1 c2 c3 c4 c5 rn rc ts ro := by
  have hw := wi_in a0 13 (by decide) (by decide); have a6 := wi_in a1 30 (by decide) (by decide); have b60 := wi_in a1 60 (by decide) (by decide); have b12 := wi_in a1 12 (by decide) (by decide); have b2 := wi_in a1 2 (by decide) (by decide); have b4 := wi_in a1 4 (by decide) (by decide); have b7 := wi_in a2 30 (by decide) (by decide); have b8 := wi_in a2 2147483648 (by decide) (by decide); have n3 := wi_in a3 3 (by decide) (by decide); have n6 := wi_in a3 6 (by decide) (by decide); have n4 := wi_in (wrap64 (Int.tdiv a3 3)) 4 (by decide) (by decide); have o3 := nm3_ok n3.1 n3.2; have w3 := wb3_ok n3.1 n3.2; have o6 := nm6_ok n6.1 n6.2; have t4 := tg4_ok n4.1 n4.2; obtain ⟨q1, q2, q3, q4, q5, q6, hcf, hcfg⟩ := config_ok a7 a8 a9 b0 b1 b3 a3; obtain ⟨nm, cf, l, roll, hrt, r1, ⟨_, r2⟩, r3, r4, r5, r6⟩ := gen_ok k (by omega) a3 l5 hns a2; obtain ⟨rv, hrv, b5, b6⟩ := turn_ok n3.1 n3.2 (show 1 ≤ 1 + wi a1 4 by omega) (by omega) k hk; (have nil : isNil ⟨#[]⟩ = true := by unfold isNil; rw [nil_tl]; rfl); (have a4 : cfgZ ⟨#[]⟩ 0 0 0 0 0 = true := by unfold cfgZ; rw [nil_tl]; rfl); (have a5 : bareV ⟨#[]⟩ ⟨#[]⟩ [] 0 = true := by unfold bareV; rw [nil]; rfl); unfold damperlaw3_Make.f; generalize wi a0 13 = kk at hw ⊢; rcases (show kk = 0 ∨ kk = 1 ∨ kk = 2 ∨ kk = 3 ∨ kk = 4 ∨ kk = 5 ∨ kk = 6 ∨ kk = 7 ∨ kk = 8 ∨ kk = 9 ∨ kk = 10 ∨ kk = 11 ∨ kk = 12 by omega) with rfl | rfl | rfl | rfl | rfl | rfl | rfl | rfl | rfl | rfl | rfl | rfl | rfl
  · rw [if_pos rfl, hcf]; exact ⟨_, _, _, _, _, _, _, _, _, _, _, _, _, _, _, rfl, ⟨by omega, by simp [extra, shp, zInt, zStr, nil, a5], fun _ => inB_of a6.1 (by omega), (by intro h; cases h), .inl nil, by decide, fun _ => hcfg, by omega, ⟨Nat.zero_le _, Nat.zero_le _, a6.1, by omega, fun _ => rfl⟩⟩⟩
  · rw [if_neg (by decide), if_pos rfl, hrt]; exact ⟨_, _, _, _, _, _, _, _, _, _, _, _, _, _, _, rfl, ⟨by omega, by simp [extra, shp, zInt, zStr, nil, a4], fun _ => inB_of a6.1 (by omega), (by intro h; cases h), .inl nil, by decide, by omega, fun _ => ⟨r1, r2, r3, r4, r5, r6⟩, ⟨Nat.zero_le _, Nat.zero_le _, a6.1, by omega, by omega⟩⟩⟩
  · iterate 2 rw [if_neg (by decide)]
    rw [if_pos rfl]; exact ⟨_, _, _, _, _, _, _, _, _, _, _, _, _, _, _, rfl, ⟨by omega, by simp [extra, shp, zInt, zStr, nil, a5, a4], fun _ => inB_of (a := 1) (b := 2) (by omega) (by omega), fun _ => o6.1, .inl nil, inB_of b7.1 (by omega), by omega, by omega, ⟨o6.2, Nat.zero_le _, by omega, by omega, fun _ => rfl⟩⟩⟩
  · iterate 3 rw [if_neg (by decide)]
    rw [if_pos rfl]; exact ⟨_, _, _, _, _, _, _, _, _, _, _, _, _, _, _, rfl, ⟨by omega, by simp [extra, shp, zInt, zStr, nil, a5, a4], fun _ => inB_of (a := 1) (b := 2147483647) (by omega) (by omega), fun _ => o3.1, t4.1, inB_of b8.1 (by omega), by omega, by omega, ⟨o3.2, t4.2, by omega, by omega, fun _ => rfl⟩⟩⟩
  · iterate 4 rw [if_neg (by decide)]
    rw [if_pos rfl]; exact ⟨_, _, _, _, _, _, _, _, _, _, _, _, _, _, _, rfl, ⟨by omega, by simp [extra, shp, zInt, zStr, nil, a5, a4], fun _ => inB_of (a := 1) (b := 2147483647) (by omega) (by omega), (by intro h; cases h), .inl nil, by decide, by omega, by omega, ⟨Nat.zero_le _, Nat.zero_le _, by omega, by omega, fun _ => rfl⟩⟩⟩
  · iterate 5 rw [if_neg (by decide)]
    rw [if_pos rfl]; exact ⟨_, _, _, _, _, _, _, _, _, _, _, _, _, _, _, rfl, ⟨by omega, by simp [extra, shp, zInt, zStr, nil, a5, a4], fun _ => inB_of (a := 1) (b := 2147483647) (by omega) (by omega), (by intro h; cases h), .inl nil, by decide, by omega, by omega, ⟨Nat.zero_le _, Nat.zero_le _, by omega, by omega, fun _ => rfl⟩⟩⟩
  · iterate 6 rw [if_neg (by decide)]
    rw [if_pos rfl]; exact ⟨_, _, _, _, _, _, _, _, _, _, _, _, _, _, _, rfl, ⟨by omega, by simp [extra, shp, zInt, zStr, nil, a5, a4], fun _ => inB_of (a := 1) (b := 2147483647) (by omega) (by omega), (by intro h; cases h), .inl nil, by decide, by omega, by omega, ⟨Nat.zero_le _, Nat.zero_le _, by omega, by omega, fun _ => rfl⟩⟩⟩
  · iterate 7 rw [if_neg (by decide)]
    rw [if_pos rfl]; exact ⟨_, _, _, _, _, _, _, _, _, _, _, _, _, _, _, rfl, ⟨by omega, by simp [extra, shp, zInt, zStr, nil, a5, a4], fun _ => inB_of (a := 1) (b := 2147483647) (by omega) (by omega), (by intro h; cases h), .inl nil, by decide, by omega, by omega, ⟨Nat.zero_le _, Nat.zero_le _, by omega, by omega, fun _ => rfl⟩⟩⟩
  · iterate 8 rw [if_neg (by decide)]
    rw [if_pos rfl]; exact ⟨_, _, _, _, _, _, _, _, _, _, _, _, _, _, _, rfl, ⟨by omega, by simp [extra, shp, zInt, zStr, nil, a5, a4], by (intro h; cases h), by (intro h; cases h), .inl nil, by decide, by omega, by omega, ⟨Nat.zero_le _, Nat.zero_le _, by omega, by omega, fun _ => rfl⟩⟩⟩
  · iterate 9 rw [if_neg (by decide)]
    rw [if_pos rfl]; exact ⟨_, _, _, _, _, _, _, _, _, _, _, _, _, _, _, rfl, ⟨by omega, by simp [extra, shp, zInt, zStr, nil, a5, a4], by (intro h; cases h), fun _ => w3.1, .inl nil, by decide, by omega, by omega, ⟨w3.2, Nat.zero_le _, by omega, by omega, fun _ => rfl⟩⟩⟩
  · iterate 10 rw [if_neg (by decide)]
    rw [if_pos rfl]; exact ⟨_, _, _, _, _, _, _, _, _, _, _, _, _, _, _, rfl, ⟨by omega, by simp [extra, shp, zInt, zStr, nil, a5, a4], by (intro h; cases h), fun _ => o3.1, .inl nil, by decide, by omega, by omega, ⟨o3.2, Nat.zero_le _, by omega, by omega, fun _ => rfl⟩⟩⟩
  · iterate 11 rw [if_neg (by decide)]
    rw [if_pos rfl, hrv]; exact ⟨_, _, _, _, _, _, _, _, _, _, _, _, _, _, _, rfl, ⟨by omega, by simp [extra, shp, zInt, zStr, nil, a5, a4], by (intro h; cases h), fun _ => b5, .inl nil, by decide, by omega, by omega, ⟨b6, Nat.zero_le _, by omega, by omega, fun _ => rfl⟩⟩⟩
  · iterate 12 rw [if_neg (by decide)]
    rw [if_pos rfl, hrv]; exact ⟨_, _, _, _, _, _, _, _, _, _, _, _, _, _, _, rfl, ⟨by omega, by simp [extra, shp, zInt, zStr, nil, a5, a4], by (intro h; cases h), fun _ => b5, .inl nil, by decide, by omega, by omega, ⟨b6, Nat.zero_le _, by omega, by omega, fun _ => rfl⟩⟩⟩

def eqT (a b : S39) : Bool := a.f0.toList == b.f0.toList && (a.f1.toList == b.f1.toList && a.f2 == b.f2)
def eqL : List S39 → List S39 → Bool
  | [], [] => true
  | a :: l, b :: m => eqT a b && eqL l m
  | [], _ :: _ => false
  | _ :: _, [] => false
theorem eqL_len : ∀ (l m : List S39), l.length ≠ m.length → eqL l m = false
  | [], [], h => absurd rfl h
  | [], _ :: _, _ => rfl
  | _ :: _, [], _ => rfl
  | a :: l, b :: m, h => by
    rw [eqL, eqL_len l m (by simpa using h), Bool.and_false]
/-- Are two routes the same? -/
def sameE (n c : ByteArray) (l : List S39) (r : Int) (n2 c2 : ByteArray) (l2 : List S39) (r2 : Int) : Bool := n.toList == n2.toList && c.toList == c2.toList && r == r2 && eqL l l2
theorem eqT_refl (t : S39) : eqT t t = true := by unfold eqT; simp
theorem eqL_refl : ∀ l : List S39, eqL l l = true
  | [] => rfl
  | t :: ts => by rw [eqL, eqT_refl, eqL_refl ts]; rfl
theorem sameE_refl (n c : ByteArray) (l : List S39) (r : Int) : sameE n c l r n c l r = true := by unfold sameE; rw [eqL_refl]; simp
theorem rsame_l0 (n c : ByteArray) (l : List S39) (r : Int) (n2 c2 : ByteArray) (l2 : List S39) (r2 : Int) (hl : l.length = l2.length) (hb : l.length ≤ 9223372036854775806) : ∀ (m i k : Nat), l.length - i = m → i ≤ l.length → m + 1 ≤ k →
    damperref2_SameRoute.l0 k (i : Int) n c l r n2 c2 l2 r2 = some (eqL (l.drop i) (l2.drop i))
  | m, i, k, hm, hi, hk => by
    obtain ⟨k, rfl⟩ : ∃ j, k = j + 1 := ⟨k - 1, by omega⟩; rw [damperref2_SameRoute.l0]; by_cases h : i < l.length
    · (have h2 : i < l2.length := by omega); rw [if_pos (by omega), if_pos (by omega), if_pos (by omega), rd_at l i h, rd_at l2 i h2, List.drop_eq_getElem_cons h, List.drop_eq_getElem_cons h2, eqL, w64_small _ (by omega) (by omega), show ((i : Int) + 1) = ((i + 1 : Nat) : Int) by omega, rsame_l0 n c l r n2 c2 l2 r2 hl hb (m - 1) (i + 1) k (by omega) (by omega) (by omega)]; unfold eqT; cases (l[i].f0.toList == l2[i].f0.toList) <;> cases (l[i].f1.toList == l2[i].f1.toList) <;> cases (l[i].f2 == l2[i].f2) <;> rfl
    · rw [if_neg (by omega), List.drop_of_length_le (by omega), List.drop_of_length_le (by omega)]; rfl
theorem rsame_eq (k : Nat) (n c : ByteArray) (l : List S39) (r : Int) (n2 c2 : ByteArray) (l2 : List S39) (r2 : Int) (hb : l.length ≤ 9223372036854775806) (hk : l.length + 3 ≤ k) : damperref2_SameRoute.f k n c l r n2 c2 l2 r2 = some (sameE n c l r n2 c2 l2 r2) := by
  obtain ⟨k, rfl⟩ : ∃ j, k = j + 1 := ⟨k - 1, by omega⟩
  have j : damperref2_SameRoute.j0 (k + 1) ((l.length : Int) != (l2.length : Int)) n c l r n2 c2 l2 r2 = some (eqL l l2) := by
    rw [damperref2_SameRoute.j0]; by_cases hl : l.length = l2.length
    · rw [if_neg (by rw [hl]; simp)]; have := rsame_l0 n c l r n2 c2 l2 r2 hl hb l.length 0 k (by omega) (by omega) (by omega)
      rwa [List.drop_zero, List.drop_zero] at this
    · rw [if_pos (by rw [bne_iff_ne]; omega), eqL_len _ _ hl]
  (have jt : damperref2_SameRoute.j0 (k + 1) true n c l r n2 c2 l2 r2 = some false := by rw [damperref2_SameRoute.j0, if_pos rfl]); unfold damperref2_SameRoute.f sameE; rw [j, jt]; by_cases h0 : n.toList = n2.toList
  · rw [if_pos h0, beq_iff_eq.2 h0]; by_cases h1 : c.toList = c2.toList
    · rw [if_pos h1, beq_iff_eq.2 h1]; by_cases h2 : r = r2
      · rw [if_pos h2, beq_iff_eq.2 h2]; simp
      · rw [if_neg h2, beq_eq_false_iff_ne.2 h2]; simp
    · rw [if_neg h1, beq_eq_false_iff_ne.2 h1]; simp
  · rw [if_neg h0, beq_eq_false_iff_ne.2 h0]; simp
def numE (n least : Int) : Int := if inB n least 2147483647 = true then 0 else 2
theorem inB_iff (n a b : Int) : inB n a b = true ↔ a ≤ n ∧ n ≤ b := by unfold inB; simp
theorem rnum_eq (n l : Int) : damperref3_number.f n l = some (numE n l) := by
  unfold damperref3_number.f numE; by_cases h : n < l
  · rw [if_pos h, if_neg (by rw [inB_iff]; omega)]
  rw [if_neg h]; by_cases h2 : n > 2147483647
  · rw [if_pos h2, if_neg (by rw [inB_iff]; omega)]
  rw [if_neg h2, if_pos (by rw [inB_iff]; omega)]
theorem rnamed_eq (b : Bool) : damperref3_named.f b = some (if b = true then 0 else 1) := by cases b <;> rfl
def firstV : List Int → Int
  | [] => 0
  | a :: l => if a = 0 then firstV l else a
theorem first_l0 (l : List Int) (hl : l.length ≤ 1000) : ∀ (m i k : Nat), l.length - i = m → i ≤ l.length → m + 1 ≤ k → damperref3_first.l0 k l (i : Int) = some (firstV (l.drop i))
  | 0, i, k, hm, hi, hk => by
    obtain ⟨k, rfl⟩ : ∃ j, k = j + 1 := ⟨k - 1, by omega⟩; rw [damperref3_first.l0, if_neg (by omega), List.drop_eq_nil_of_le (by omega)]; rfl
  | m + 1, i, k, hm, hi, hk => by
    obtain ⟨k, rfl⟩ : ∃ j, k = j + 1 := ⟨k - 1, by omega⟩; have h : i < l.length := by omega
    have e : rd l (i : Int) = l[i] := by
      show l.getD (i : Int).toNat 0 = l[i]; rw [Int.toNat_natCast, List.getD_eq_getElem?_getD, List.getElem?_eq_getElem h, Option.getD_some]
    rw [damperref3_first.l0, if_pos (by omega), if_pos (by omega), e, List.drop_eq_getElem_cons h, firstV]; by_cases h0 : l[i] = 0
    · rw [if_pos h0, if_pos h0, show wrap64 ((i : Int) + 1) = ((i + 1 : Nat) : Int) by unfold wrap64; omega, first_l0 l hl m (i + 1) k (by omega) (by omega) (by omega)]
    · rw [if_neg h0, if_neg h0]
theorem rfirst_eq (k : Nat) (hk : 10 ≤ k) (l : List Int) (hl : l.length ≤ 5) : damperref3_first.f k l = some (firstV l) := by
  have := first_l0 l (by omega) l.length 0 k (by omega) (by omega) (by omega)
  rwa [List.drop_zero] at this
theorem rS_eq (k : Nat) (kd : Int) (nm tg : ByteArray) (n dr : Int) (c0 : ByteArray) (c1 c2 c3 c4 c5 : Int) (rn rc : ByteArray) (ts : List S39) (ro : Int) (kd' : Int) (nm' tg' : ByteArray) (n' dr' : Int) (c0' : ByteArray) (c1' c2' c3' c4' c5' : Int) (rn' rc' : ByteArray) (ts' : List S39) (ro' : Int) (hb : ts.length ≤ 9223372036854775806) (hk : ts.length + 3 ≤ k) :
    damperref3_Same.f k kd nm tg n dr c0 c1 c2 c3 c4 c5 rn rc ts ro kd' nm' tg' n' dr' c0' c1' c2' c3' c4' c5' rn' rc' ts' ro' = some (kd == kd' && (nm.toList == nm'.toList && (tg.toList == tg'.toList && (n == n' && (dr == dr' && ((c0.toList == c0'.toList && (c1 == c1' && (c2 == c2' && (c3 == c3' && (c4 == c4' && (c5 == c5')))))) && sameE rn rc ts ro rn' rc' ts' ro')))))) := by
  unfold damperref3_Same.f; rw [rsame_eq k rn rc ts ro rn' rc' ts' ro' hb hk]; generalize sameE rn rc ts ro rn' rc' ts' ro' = z; generalize (c0.toList == c0'.toList && (c1 == c1' && (c2 == c2' && (c3 == c3' && (c4 == c4' && (c5 == c5')))))) = y; by_cases h0 : kd = kd'
  · rw [if_pos h0, beq_iff_eq.2 h0]; by_cases h1 : nm.toList = nm'.toList
    · rw [if_pos h1, beq_iff_eq.2 h1]; by_cases h2 : tg.toList = tg'.toList
      · rw [if_pos h2, beq_iff_eq.2 h2]; by_cases h3 : n = n'
        · rw [if_pos h3, beq_iff_eq.2 h3]; by_cases h4 : dr = dr'
          · rw [if_pos h4, beq_iff_eq.2 h4]; cases y <;> simp
          · rw [if_neg h4, beq_eq_false_iff_ne.2 h4]; simp
        · rw [if_neg h3, beq_eq_false_iff_ne.2 h3]; simp
      · rw [if_neg h2, beq_eq_false_iff_ne.2 h2]; simp
    · rw [if_neg h1, beq_eq_false_iff_ne.2 h1]; simp
  · rw [if_neg h0, beq_eq_false_iff_ne.2 h0]; simp
theorem sameE_nil (rn rc : ByteArray) (ts : List S39) (ro : Int) : sameE rn rc ts ro ⟨#[]⟩ ⟨#[]⟩ [] 0 = bareV rn rc ts ro := by
  unfold sameE bareV isNil; rw [nil_tl]; (have : eqL ts [] = (ts.length == 0) := by cases ts <;> rfl); rw [this, Bool.and_assoc, Bool.and_assoc]
theorem cfg_self (c0 : ByteArray) (c1 c2 c3 c4 c5 : Int) : (c0.toList == c0.toList && (c1 == c1 && (c2 == c2 && (c3 == c3 && (c4 == c4 && (c5 == c5)))))) = true := by simp
theorem cfg_nil (c0 : ByteArray) (c1 c2 c3 c4 c5 : Int) : (c0.toList == (⟨#[]⟩ : ByteArray).toList && (c1 == 0 && (c2 == 0 && (c3 == 0 && (c4 == 0 && (c5 == 0)))))) = cfgZ c0 c1 c2 c3 c4 c5 := by rw [nil_tl]; rfl
theorem str_nil (s : ByteArray) : (s.toList == (⟨#[]⟩ : ByteArray).toList) = isNil s := by rw [nil_tl]; rfl
theorem ckB_eq {x : Bool} {p : ByteArray × Int × Bool} {rest : (ByteArray × Int × Bool) → Option Int} {v : Int} (hr : rest p = some v) : ckB (some (!x)) (some p) rest = some (if x = true then 2 else v) := by
  unfold ckB; cases x
  · exact hr
  · rfl
theorem ckB_of {b x : Bool} {p : ByteArray × Int × Bool} {rest : (ByteArray × Int × Bool) → Option Int} {v : Int} (hb : b = !x) (hr : rest p = some v) : ckB (some b) (some p) rest = some (if x = true then 2 else v) := by
  subst hb; exact ckB_eq hr
theorem cfgI (c0 : ByteArray) (c1 c2 c3 c4 c5 : Int) : cfgZ c0 c1 c2 c3 c4 c5 = (isNil c0 && (c1 == 0 && (c2 == 0 && (c3 == 0 && (c4 == 0 && c5 == 0))))) := rfl
theorem fv0 (l : List Int) : firstV (0 :: l) = firstV l := by rw [firstV, if_pos rfl]
theorem fv1 (l : List Int) : firstV (1 :: l) = 1 := by rw [firstV, if_neg (by decide)]
theorem fv2 (l : List Int) : firstV (2 :: l) = 2 := by rw [firstV, if_neg (by decide)]
theorem fvc (c : Int) : firstV [c] = c := by
  rw [firstV]; by_cases h : c = 0
  · rw [if_pos h, h]; rfl
  · rw [if_neg h]
theorem chkV_of {kd : Int} {nm tg : ByteArray} {n dr : Int} {c0 : ByteArray} {c1 c2 c3 c4 c5 : Int} {rn rc : ByteArray} {ts : List S39} {ro : Int} {f1 f2 f3 f4 f5 f6 : Bool} (hs : shp kd = (f1, f2, f3, f4, f5, f6, true)) :
    chkV kd nm tg n dr c0 c1 c2 c3 c4 c5 rn rc ts ro = if extra kd nm tg n dr c0 c1 c2 c3 c4 c5 rn rc ts ro = true then 2 else e1 (f1 && !numOk kd n) kd nm tg dr c0 c1 c2 c3 c4 c5 rn rc ts ro f2 f3 f4 f5 f6 := by
  unfold chkV; rw [hs]; rfl
theorem extra_of {kd : Int} {nm tg : ByteArray} {n dr : Int} {c0 : ByteArray} {c1 c2 c3 c4 c5 : Int} {rn rc : ByteArray} {ts : List S39} {ro : Int} {f1 f2 f3 f4 f5 f6 f7 : Bool} (hs : shp kd = (f1, f2, f3, f4, f5, f6, f7)) :
    (!extra kd nm tg n dr c0 c1 c2 c3 c4 c5 rn rc ts ro) = (zInt f1 n && (zStr f2 nm && (zStr f3 tg && (zInt f4 dr && ((f5 || cfgZ c0 c1 c2 c3 c4 c5) && (f6 || bareV rn rc ts ro)))))) := by
  unfold extra; rw [hs, Bool.not_not]
/-- What the document says of any event. -/
theorem rchk_eq (k B : Nat) (hk : B + 80 ≤ k) (kd : Int) (nm tg : ByteArray) (n dr : Int) (c0 : ByteArray) (c1 c2 c3 c4 c5 : Int) (rn rc : ByteArray) (ts : List S39) (ro : Int) (hnm : nm.size < 281474976710656 ∧ nm.data.toList.length + 30 ≤ B) (htg : tg.size < 4611686018427387904 ∧ tg.data.toList.length + 30 ≤ B) (a1 : c0.size < 4611686018427387904 ∧ c0.data.toList.length + 30 ≤ B)
    (hrn : rn.size < 4611686018427387904 ∧ rn.data.toList.length + 30 ≤ B) (hrc : rc.size < 4611686018427387904 ∧ rc.data.toList.length + 30 ≤ B) (hl : ts.length ≤ 1000 ∧ ts.length + 3 ≤ k)
    (hs : ∀ t ∈ ts, t.f0.size < 281474976710656 ∧ t.f1.size < 4611686018427387904 ∧ t.f0.data.toList.length + 30 ≤ B ∧ t.f1.data.toList.length + 30 ≤ B) :
    damperref3_Check.f k kd nm tg n dr c0 c1 c2 c3 c4 c5 rn rc ts ro = some (chkV kd nm tg n dr c0 c1 c2 c3 c4 c5 rn rc ts ro) := by
  have hS := fun (kd' : Int) (nm' tg' : ByteArray) (n' dr' : Int) (c0' : ByteArray) (c1' c2' c3' c4' c5' : Int) (rn' rc' : ByteArray) (ts' : List S39) (ro' : Int) => rS_eq k kd' nm tg n dr c0 c1 c2 c3 c4 c5 rn rc ts ro kd' nm' tg' n' dr' c0' c1' c2' c3' c4' c5' rn' rc' ts' ro' (by omega) hl.2; have hp := rsplit_eq nm hnm.1 k (by omega); have hN := rname_eq nm (by omega) k (by omega); have hT := rtag_eq tg htg.1 k (by omega); have hC := rcfg_eq k c0 a1.1 (by omega) c1 c2 c3 c4 c5; have hR := rroute_eq k B hk rn rc ts ro hrn hrc hs; have a2 := fun a b => rfirst_eq k (by omega) [a, b] (by simp); have a3 := fun a b c => rfirst_eq k (by omega) [a, b, c] (by simp); have a4 := fun a b c d => rfirst_eq k (by omega) [a, b, c, d] (by simp); unfold damperref3_Check.f; by_cases q0 : kd < 1
  · rw [if_pos q0]
    have : (shp kd).2.2.2.2.2.2 = false := by
      unfold shp; rw [if_neg (by omega), if_neg (by omega), if_neg (by omega), if_neg (by omega), if_neg (by omega), if_neg (by omega), if_neg (by omega)]
    unfold chkV; rw [if_neg (by rw [this]; decide)]
  rw [if_neg q0]; by_cases a0 : 13 < kd
  · rw [if_pos a0]
    have : (shp kd).2.2.2.2.2.2 = false := by
      unfold shp; rw [if_neg (by omega), if_neg (by omega), if_neg (by omega), if_neg (by omega), if_neg (by omega), if_neg (by omega), if_neg (by omega)]
    unfold chkV; rw [if_neg (by rw [this]; decide)]
  rw [if_neg a0]; simp only [hS, hp, hN, hT, hC, hR, rnum_eq, rnamed_eq, a2, a3, a4, Option.bind_some, cfg_self, cfg_nil, str_nil, sameE_nil, sameE_refl, beq_self_eq_true, Bool.true_and, Bool.and_true]; rcases (show kd = 1 ∨ kd = 2 ∨ kd = 3 ∨ kd = 4 ∨ kd = 5 ∨ kd = 6 ∨ kd = 7 ∨ kd = 8 ∨ kd = 9 ∨ kd = 10 ∨ kd = 11 ∨ kd = 12 ∨ kd = 13 by omega) with rfl | rfl | rfl | rfl | rfl | rfl | rfl | rfl | rfl | rfl | rfl | rfl | rfl
  · have hsh : shp 1 = (true, false, false, false, true, false, true) := rfl; rw [if_pos rfl, chkV_of hsh]; refine ckB_of ?_ ?_
    · rw [extra_of hsh]; simp only [zInt, zStr, cfgI, Bool.true_or, Bool.false_or, Bool.true_and, Bool.and_true, Bool.and_assoc]
    · cases hn : inB n 0 2147483647 <;> simp [numE, numOk, e1, e2, e3, e4, hn, fv0, fv1, fv2, fvc]
  · have hsh : shp 2 = (true, false, false, false, false, true, true) := rfl; rw [if_neg (by decide), if_pos rfl, chkV_of hsh]; refine ckB_of ?_ ?_
    · rw [extra_of hsh]; simp only [zInt, zStr, cfgI, Bool.true_or, Bool.false_or, Bool.true_and, Bool.and_true, Bool.and_assoc]
    · cases hn : inB n 0 2147483647 <;> simp [numE, numOk, e1, e2, e3, e4, hn, fv0, fv1, fv2, fvc]
  · have hsh : shp 3 = (true, true, false, true, false, false, true) := rfl; rw [if_neg (by decide), if_neg (by decide), if_pos rfl, chkV_of hsh]; refine ckB_of ?_ ?_
    · rw [extra_of hsh]; simp only [zInt, zStr, cfgI, Bool.true_or, Bool.false_or, Bool.true_and, Bool.and_true, Bool.and_assoc]
    · have i1 : inB n 1 2 = (decide (1 ≤ n) && decide (n ≤ 2)) := rfl; have i2 : inB n 1 2147483647 = (decide (1 ≤ n) && decide (n ≤ 2147483647)) := rfl; by_cases p1 : 2 < n
      · have : decide (n ≤ 2) = false := decide_eq_false (by omega); simp [numE, numOk, nameOk, e1, e2, e3, e4, i1, this, p1]
      · have h2 : decide (n ≤ 2) = true := decide_eq_true (by omega); have h3 : decide (n ≤ 2147483647) = true := decide_eq_true (by omega); cases hn : decide (1 ≤ n) <;> cases hs : shortL nm.data.toList 16 <;> cases hd : inB dr 0 2147483647 <;> simp [numE, numOk, nameOk, e1, e2, e3, e4, i1, i2, h2, h3, hn, hs, hd, p1, fv0, fv1, fv2, fvc]
  · have hsh : shp 4 = (true, true, true, true, false, false, true) := rfl; rw [if_neg (by decide), if_neg (by decide), if_neg (by decide), if_pos rfl, chkV_of hsh]; refine ckB_of ?_ ?_
    · rw [extra_of hsh]; simp only [zInt, zStr, cfgI, Bool.true_or, Bool.false_or, Bool.true_and, Bool.and_true, Bool.and_assoc]
    · by_cases ht : tg.toList = []
      · cases hn : inB n 1 2147483647 <;> cases hs : shortL nm.data.toList 16 <;> cases hd : inB dr 0 2147483647 <;> simp [numE, numOk, nameOk, e1, e2, e3, e4, isNil, hn, hs, hd, ht, fv0, fv1, fv2, fvc]
      · (have a5 : (tg.toList == []) = false := by simpa using ht); cases hn : inB n 1 2147483647 <;> cases hs : shortL nm.data.toList 16 <;> cases hg : shortL tg.data.toList 8 <;> cases hd : inB dr 0 2147483647 <;> simp [numE, numOk, nameOk, e1, e2, e3, e4, isNil, hn, hs, hd, hg, ht, a5, fv0, fv1, fv2, fvc]
  · have hsh : shp 5 = (true, false, false, false, false, false, true) := rfl; rw [if_neg (by decide), if_neg (by decide), if_neg (by decide), if_neg (by decide), if_pos rfl, chkV_of hsh]; refine ckB_of ?_ ?_
    · rw [extra_of hsh]; simp only [zInt, zStr, cfgI, Bool.true_or, Bool.false_or, Bool.true_and, Bool.and_true, Bool.and_assoc]
    · cases hn : inB n 1 2147483647 <;> simp [numE, numOk, e1, e2, e3, e4, hn, fv0, fv1, fv2, fvc]
  · have hsh : shp 6 = (true, false, false, false, false, false, true) := rfl; rw [if_neg (by decide), if_neg (by decide), if_neg (by decide), if_neg (by decide), if_neg (by decide), if_pos rfl, chkV_of hsh]; refine ckB_of ?_ ?_
    · rw [extra_of hsh]; simp only [zInt, zStr, cfgI, Bool.true_or, Bool.false_or, Bool.true_and, Bool.and_true, Bool.and_assoc]
    · cases hn : inB n 1 2147483647 <;> simp [numE, numOk, e1, e2, e3, e4, hn, fv0, fv1, fv2, fvc]
  · have hsh : shp 7 = (true, false, false, false, false, false, true) := rfl; rw [if_neg (by decide), if_neg (by decide), if_neg (by decide), if_neg (by decide), if_neg (by decide), if_neg (by decide), if_pos rfl, chkV_of hsh]; refine ckB_of ?_ ?_
    · rw [extra_of hsh]; simp only [zInt, zStr, cfgI, Bool.true_or, Bool.false_or, Bool.true_and, Bool.and_true, Bool.and_assoc]
    · cases hn : inB n 1 2147483647 <;> simp [numE, numOk, e1, e2, e3, e4, hn, fv0, fv1, fv2, fvc]
  · have hsh : shp 8 = (true, false, false, false, false, false, true) := rfl; rw [if_neg (by decide), if_neg (by decide), if_neg (by decide), if_neg (by decide), if_neg (by decide), if_neg (by decide), if_neg (by decide), if_pos rfl, chkV_of hsh]; refine ckB_of ?_ ?_
    · rw [extra_of hsh]; simp only [zInt, zStr, cfgI, Bool.true_or, Bool.false_or, Bool.true_and, Bool.and_true, Bool.and_assoc]
    · cases hn : inB n 1 2147483647 <;> simp [numE, numOk, e1, e2, e3, e4, hn, fv0, fv1, fv2, fvc]
  · have hsh : shp 9 = (false, false, false, false, false, false, true) := rfl; rw [if_neg (by decide), if_neg (by decide), if_neg (by decide), if_neg (by decide), if_neg (by decide), if_neg (by decide), if_neg (by decide), if_neg (by decide), if_pos rfl, chkV_of hsh]; refine ckB_of ?_ ?_
    · rw [extra_of hsh]; simp only [zInt, zStr, cfgI, Bool.true_or, Bool.false_or, Bool.true_and, Bool.and_true, Bool.and_assoc]; try (generalize isNil nm = b1; generalize isNil tg = b2; generalize (n == 0) = b3; cases b1 <;> cases b2 <;> cases b3 <;> simp)
    · simp [e1, e2, e3, e4]
  · have hsh : shp 10 = (false, true, false, false, false, false, true) := rfl; rw [if_neg (by decide), if_neg (by decide), if_neg (by decide), if_neg (by decide), if_neg (by decide), if_neg (by decide), if_neg (by decide), if_neg (by decide), if_neg (by decide), if_pos rfl, chkV_of hsh]; refine ckB_of ?_ ?_
    · rw [extra_of hsh]; simp only [zInt, zStr, cfgI, Bool.true_or, Bool.false_or, Bool.true_and, Bool.and_true, Bool.and_assoc]; try (generalize isNil nm = b1; generalize isNil tg = b2; generalize (n == 0) = b3; cases b1 <;> cases b2 <;> cases b3 <;> simp)
    · cases hs : shortL nm.data.toList 16 <;> simp [nameOk, e1, e2, e3, e4, hs]
  · have hsh : shp 11 = (false, true, false, false, false, false, true) := rfl; rw [if_neg (by decide), if_neg (by decide), if_neg (by decide), if_neg (by decide), if_neg (by decide), if_neg (by decide), if_neg (by decide), if_neg (by decide), if_neg (by decide), if_neg (by decide), if_pos rfl, chkV_of hsh]; refine ckB_of ?_ ?_
    · rw [extra_of hsh]; simp only [zInt, zStr, cfgI, Bool.true_or, Bool.false_or, Bool.true_and, Bool.and_true, Bool.and_assoc]; try (generalize isNil nm = b1; generalize isNil tg = b2; generalize (n == 0) = b3; cases b1 <;> cases b2 <;> cases b3 <;> simp)
    · cases hs : shortL nm.data.toList 16 <;> simp [nameOk, e1, e2, e3, e4, hs]
  · have hsh : shp 12 = (false, true, false, false, false, false, true) := rfl; rw [if_neg (by decide), if_neg (by decide), if_neg (by decide), if_neg (by decide), if_neg (by decide), if_neg (by decide), if_neg (by decide), if_neg (by decide), if_neg (by decide), if_neg (by decide), if_neg (by decide), if_pos rfl, chkV_of hsh]; refine ckB_of ?_ ?_
    · rw [extra_of hsh]; simp only [zInt, zStr, cfgI, Bool.true_or, Bool.false_or, Bool.true_and, Bool.and_true, Bool.and_assoc]; try (generalize isNil nm = b1; generalize isNil tg = b2; generalize (n == 0) = b3; cases b1 <;> cases b2 <;> cases b3 <;> simp)
    · cases hs : (splitV nm).2.2 <;> simp [nameOk, e1, e2, e3, e4, hs]
  · have hsh : shp 13 = (false, true, false, false, false, false, true) := rfl; rw [if_neg (by decide), if_neg (by decide), if_neg (by decide), if_neg (by decide), if_neg (by decide), if_neg (by decide), if_neg (by decide), if_neg (by decide), if_neg (by decide), if_neg (by decide), if_neg (by decide), if_neg (by decide), if_pos rfl, chkV_of hsh]; refine ckB_of ?_ ?_
    · rw [extra_of hsh]; simp only [zInt, zStr, cfgI, Bool.true_or, Bool.false_or, Bool.true_and, Bool.and_true, Bool.and_assoc]; try (generalize isNil nm = b1; generalize isNil tg = b2; generalize (n == 0) = b3; cases b1 <;> cases b2 <;> cases b3 <;> simp)
    · cases hs : (splitV nm).2.2 <;> simp [nameOk, e1, e2, e3, e4, hs]

def byteB (x : Int) : Prop := 0 ≤ x ∧ x ≤ 255
def tgtB (t : S39) : Prop := t.f0.size ≤ 255 ∧ t.f1.size ≤ 255 ∧ byteB t.f2
/-- What an event is made of may be told in bytes. -/
structure Fit (kd : Int) (nm tg : ByteArray) (n dr : Int) (c0 : ByteArray) (c1 c2 c3 c4 c5 : Int) (rn rc : ByteArray) (ts : List S39) (ro : Int) : Prop where
  kdF : byteB kd
  nmF : nm.size ≤ 255
  tgF : tg.size ≤ 255
  c0F : c0.size ≤ 255
  c1F : byteB c1
  c2F : byteB c2
  c3F : byteB c3
  c4F : byteB c4
  c5F : byteB c5
  rnF : rn.size ≤ 255
  rcF : rc.size ≤ 255
  tsF : ∀ t ∈ ts, tgtB t
  tlF : ts.length ≤ 100
  roF : byteB ro
theorem isNil_eq {s : ByteArray} (h : isNil s = true) : s = ⟨#[]⟩ := by
  unfold isNil at h; (have h1 : s.toList = [] := by simpa using h); have h2 : s.data.toList = [] := by rw [← Lib.toList_data]; exact h1
  cases s with
  | mk d => cases d with
    | mk l => simp at h2; subst h2; rfl
theorem Made.fit {kd : Int} {nm tg : ByteArray} {n dr : Int} {c0 : ByteArray} {c1 c2 c3 c4 c5 : Int} {rn rc : ByteArray} {ts : List S39} {ro : Int} (M : Made kd nm tg n dr c0 c1 c2 c3 c4 c5 rn rc ts ro) : Fit kd nm tg n dr c0 c1 c2 c3 c4 c5 rn rc ts ro := by
  obtain ⟨s1, s2, s3, s4, s5⟩ := M.small; have hk := M.kind
  have cz : kd ≠ 1 → cfgZ c0 c1 c2 c3 c4 c5 = true := by
    intro hne; have hx := M.bare; unfold extra at hx; simp only [Bool.not_eq_false', Bool.and_eq_true, Bool.or_eq_true] at hx; rcases hx.2.2.2.2.1 with h | h
    · exfalso; rcases (show kd = 1 ∨ kd = 2 ∨ kd = 3 ∨ kd = 4 ∨ kd = 5 ∨ kd = 6 ∨ kd = 7 ∨ kd = 8 ∨ kd = 9 ∨ kd = 10 ∨ kd = 11 ∨ kd = 12 ∨ kd = 13 by omega) with rfl | rfl | rfl | rfl | rfl | rfl | rfl | rfl | rfl | rfl | rfl | rfl | rfl <;> first | exact hne rfl | exact absurd h (by decide)
    · exact h
  have rz : kd ≠ 2 → bareV rn rc ts ro = true := by
    intro hne; have hx := M.bare; unfold extra at hx; simp only [Bool.not_eq_false', Bool.and_eq_true, Bool.or_eq_true] at hx; rcases hx.2.2.2.2.2 with h | h
    · exfalso; rcases (show kd = 1 ∨ kd = 2 ∨ kd = 3 ∨ kd = 4 ∨ kd = 5 ∨ kd = 6 ∨ kd = 7 ∨ kd = 8 ∨ kd = 9 ∨ kd = 10 ∨ kd = 11 ∨ kd = 12 ∨ kd = 13 by omega) with rfl | rfl | rfl | rfl | rfl | rfl | rfl | rfl | rfl | rfl | rfl | rfl | rfl <;> first | exact hne rfl | exact absurd h (by decide)
    · exact h
  have hc : c0.size ≤ 255 ∧ byteB c1 ∧ byteB c2 ∧ byteB c3 ∧ byteB c4 ∧ byteB c5 := by
    unfold byteB; by_cases h1 : kd = 1
    · obtain ⟨⟨_, h⟩, _⟩ := M.cfg h1; have := M.cfg h1; omega
    · have h := cz h1; unfold cfgZ at h; simp only [Bool.and_eq_true, beq_iff_eq] at h; have h0 := isNil_eq (s := c0) (by unfold isNil; simpa using h.1); subst h0; have : (⟨#[]⟩ : ByteArray).size = 0 := rfl; omega
  have hr : rn.size ≤ 255 ∧ rc.size ≤ 255 ∧ ts.length ≤ 100 ∧ byteB ro := by
    unfold byteB; by_cases h2 : kd = 2
    · have := M.route h2; omega
    · have h := rz h2; unfold bareV at h; simp only [Bool.and_eq_true, beq_iff_eq] at h; have e1 := isNil_eq h.1; have e2 := isNil_eq h.2.1; subst e1 e2; have : (⟨#[]⟩ : ByteArray).size = 0 := rfl; omega
  have ht : ∀ t ∈ ts, tgtB t := by
    intro t h; have hz := M.tsz t h; refine ⟨by omega, by omega, ?_⟩; by_cases h2 : kd = 2
    · obtain ⟨_, _, _, _, hg, _⟩ := M.route h2; obtain ⟨i, hi, rfl⟩ := List.getElem_of_mem h; have := (hg i hi).2.2; unfold byteB; omega
    · rw [s5 h2] at h; cases h
  obtain ⟨q1, q2, q3, q4, q5, q6⟩ := hc; obtain ⟨r1, r2, r3, r4⟩ := hr; exact ⟨by unfold byteB; omega, by omega, by omega, q1, q2, q3, q4, q5, q6, r1, r2, ht, r3, r4⟩
end Go.Proofs.YtalpoojepffldaaDoor.Plain
