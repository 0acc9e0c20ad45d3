/- Plain laws of names: the document's names and tags are the program's; texts of signs are short. -/
import Derived.Test.YtckcimahclpdfaaDoorMax6
import Derived.Test.YtckcimahclpdfaaDoorMax11
import Derived.Test.YtckcimahclpdfaaDoorMax15
import Derived.Test.YtckcimahclpdfaaDoorPlain
namespace Go.Proofs.YtckcimahclpdfaaDoor.Plain
open Go.RowKit Go.Proofs.YtckcimahclpdfaaDoor.Ma Go.Proofs.YtckcimahclpdfaaDoorW.PrintWords Go.Proofs.YtckcimahclpdfaaDoorW.PrintLast

theorem bt_list (s : ByteArray) (i : Nat) (h : i < s.data.toList.length) : bt s (i : Int) = ((s.data.toList[i]'h).toNat : Int) := by
  have h2 : ((i : Int).toNat) < s.size := h
  unfold bt
  rw [dif_pos h2]
  rfl
theorem rsign_eq (k : Nat) (b : UInt8) : damperref1_sign.f (k + 1) ((b.toNat : Nat) : Int) = some (isSign b) := by
  unfold damperref1_sign.f
  rw [damperref1_sign.j0]
  unfold isSign
  generalize b.toNat = n
  have e : (((n : Nat) : Int) == 45) = decide (n = 45) := by
    by_cases h : n = 45
    · subst h; rfl
    · rw [decide_eq_false h]; exact beq_eq_false_iff_ne.2 (by omega)
  rw [e]
  by_cases h1 : 97 ≤ n <;> by_cases h2 : n ≤ 122 <;> by_cases h3 : 48 ≤ n <;> by_cases h4 : n ≤ 57 <;>
    simp [show (((n : Nat) : Int) ≥ 97) = (97 ≤ n) from propext (by omega), show (((n : Nat) : Int) ≤ 122) = (n ≤ 122) from propext (by omega), show (((n : Nat) : Int) ≥ 48) = (48 ≤ n) from propext (by omega), show (((n : Nat) : Int) ≤ 57) = (n ≤ 57) from propext (by omega), h1, h2, h3, h4] <;> omega
theorem rname_l0 (s : ByteArray) (hs : s.size < 4611686018427387904) : ∀ (m i k : Nat), i ≤ s.data.toList.length → s.data.toList.length - i = m → m + 2 ≤ k →
    damperref1_Name.l0 k s (i : Int) = some ((s.data.toList.drop i).all isSign)
  | m, i, k, hi, hm, hk => by
    obtain ⟨k, rfl⟩ : ∃ j, k = j + 1 := ⟨k - 1, by omega⟩
    have hz : s.size = s.data.toList.length := rfl
    rw [damperref1_Name.l0]
    by_cases h : i < s.data.toList.length
    · rw [if_pos (by omega), if_pos (by omega), bt_list s i h]
      obtain ⟨k, rfl⟩ : ∃ j, k = j + 1 := ⟨k - 1, by omega⟩
      rw [rsign_eq, Option.bind_some, w64_small _ (by omega) (by omega), List.drop_eq_getElem_cons h, List.all_cons]
      by_cases hb : isSign s.data.toList[i] = true
      · rw [if_pos hb, hb, Bool.true_and]
        exact rname_l0 s hs (m - 1) (i + 1) (k + 1) (by omega) (by omega) (by omega)
      · rw [if_neg hb, (by simpa using hb : isSign s.data.toList[i] = false), Bool.false_and]
    · rw [if_neg (by omega), List.drop_of_length_le (by omega)]; rfl
theorem rname_eq (s : ByteArray) (hs : s.size < 4611686018427387904) (k : Nat) (hk : s.data.toList.length + 4 ≤ k) : damperref1_Name.f k s = some (shortL s.data.toList 16) := by
  obtain ⟨k, rfl⟩ : ∃ j, k = j + 2 := ⟨k - 2, by omega⟩
  have hz : s.size = s.data.toList.length := rfl
  have hj : ∀ b, damperref1_Name.j1 (k + 1) s b = some (!b && s.data.toList.all isSign) := by
    intro b
    rw [damperref1_Name.j1]
    cases b
    · rw [if_neg (by decide), show (0 : Int) = ((0 : Nat) : Int) from rfl, rname_l0 s hs s.data.toList.length 0 k (by omega) (by omega) (by omega)]; rfl
    · rw [if_pos rfl]; rfl
  unfold damperref1_Name.f
  rw [damperref1_Name.j0]
  generalize hl : s.data.toList = l at *
  by_cases h0 : (s.size : Int) < 1
  · rw [if_pos h0, hj]
    have : l = [] := List.eq_nil_of_length_eq_zero (by omega)
    rw [this]; rfl
  rw [if_neg h0]
  by_cases h1 : (s.size : Int) > 16
  · rw [if_pos h1, hj]
    unfold shortL
    rw [decide_eq_false (show ¬ ((l.length : Int) ≤ 16) by omega)]; simp
  rw [if_neg h1, if_pos (by omega)]
  have hlen : 0 < l.length := by omega
  have b0 : bt s 0 = ((l[0]'hlen).toNat : Int) := by
    have := bt_list s 0 (by rw [hl]; exact hlen)
    simpa [hl] using this
  have bL : bt s ((s.size : Int) - 1) = ((l[l.length - 1]'(by omega)).toNat : Int) := by
    have := bt_list s (l.length - 1) (by rw [hl]; omega)
    rw [show ((s.size : Int) - 1) = ((l.length - 1 : Nat) : Int) by omega]
    simpa [hl] using this
  have hh : l.head? = some (l[0]'hlen) := by rw [List.head?_eq_getElem?, List.getElem?_eq_getElem hlen]
  have hg : l.getLast? = some (l[l.length - 1]'(by omega)) := by rw [List.getLast?_eq_getElem?, List.getElem?_eq_getElem (by omega)]
  rw [w64_small _ (by omega) (by omega), b0, bL]
  unfold shortL
  rw [hh, hg]
  generalize l[0]'hlen = c
  generalize l[l.length - 1]'(by omega : l.length - 1 < l.length) = d
  have e16 : decide ((l.length : Int) ≤ 16) = true := decide_eq_true (by omega)
  rw [e16]
  by_cases h2 : ((c.toNat : Nat) : Int) < 97
  · rw [if_pos h2, hj]
    have : isLetter c = false := by simp [isLetter]; omega
    simp [this]
  rw [if_neg h2]
  by_cases h3 : ((c.toNat : Nat) : Int) > 122
  · rw [if_pos h3, hj]
    have : isLetter c = false := by simp [isLetter]; omega
    simp [this]
  have : isLetter c = true := by simp [isLetter]; omega
  rw [if_neg h3, if_pos (by omega), if_pos (by omega), hj]
  have e4 : (((d.toNat : Nat) : Int) == 45) = (some d == some 45) := by
    have : (d = 45) ↔ ((d.toNat : Int) = 45) := ⟨fun e => by subst e; rfl, fun e => UInt8.toNat_inj.1 (by show d.toNat = 45; omega)⟩
    by_cases hb : d = 45
    · subst hb; rfl
    · rw [show ((some d == some (45 : UInt8)) : Bool) = false from beq_eq_false_iff_ne.2 (fun e => hb (Option.some.inj e))]
      exact beq_eq_false_iff_ne.2 (mt this.2 hb)
  rw [e4]
  simp [this, Bool.and_comm]
theorem rtag_eq (s : ByteArray) (hs : s.size < 4611686018427387904) (k : Nat) (hk : s.data.toList.length + 4 ≤ k) : damperref1_Tag.f k s = some (shortL s.data.toList 8) := by
  unfold damperref1_Tag.f
  have hz : s.size = s.data.toList.length := rfl
  by_cases h : (s.size : Int) ≤ 8
  · rw [if_pos h, rname_eq s hs k hk, Option.bind_some]
    unfold shortL
    rw [decide_eq_true (show (s.data.toList.length : Int) ≤ 16 by omega), decide_eq_true (show (s.data.toList.length : Int) ≤ 8 by omega)]
  · rw [if_neg h]
    unfold shortL
    rw [decide_eq_false (show ¬ ((s.data.toList.length : Int) ≤ 8) by omega)]; simp

/-- The signs of Text. -/
def txt : List ByteArray := [(⟨#[97]⟩ : ByteArray), (⟨#[122]⟩ : ByteArray), (⟨#[48]⟩ : ByteArray), (⟨#[57]⟩ : ByteArray), (⟨#[45]⟩ : ByteArray), (⟨#[98]⟩ : ByteArray), (⟨#[49]⟩ : ByteArray), (⟨#[65]⟩ : ByteArray), (⟨#[95]⟩ : ByteArray), (⟨#[195, 169]⟩ : ByteArray), (⟨#[97]⟩ : ByteArray), (⟨#[55]⟩ : ByteArray)]
theorem txt_small (t : Nat) (h : t < 12) : (rdOf ByteArray.empty txt (t : Int)).size ≤ 2 := by
  have : ∀ t : Nat, t < 12 → (rdOf ByteArray.empty txt (t : Int)).size ≤ 2 := by decide
  exact this t h
theorem rd_wf {l : List Int} (h : ∀ y_ ∈ l, (Lit.int .i64 y_).wf = true) (i : Nat) : (Lit.int .i64 (rd l (i : Int))).wf = true := by
  unfold rd
  show (Lit.int .i64 (l.getD i 0)).wf = true
  by_cases hi : i < l.length
  · rw [List.getD_eq_getElem?_getD, List.getElem?_eq_getElem hi]; exact h _ (List.getElem_mem hi)
  · rw [List.getD_eq_getElem?_getD, List.getElem?_eq_none (by omega)]; rfl
theorem text_l0 (l : List Int) : ∀ (m i k : Nat) (s : ByteArray), 24 - i = m → i ≤ 24 → m + 2 ≤ k → s.size ≤ 2 * i →
    ∃ r, damperlaw1_Text.l0 k l s (i : Int) = some r ∧ r.size ≤ 48
  | m, i, k, s, hm, hi, hk, hs => by
    obtain ⟨k, rfl⟩ : ∃ j, k = j + 1 := ⟨k - 1, by omega⟩
    rw [damperlaw1_Text.l0]
    by_cases h : (i : Int) < (l.length : Int)
    · rw [if_pos h]
      by_cases h24 : (i : Int) < 24
      · rw [if_pos h24, Option.bind_some, if_pos (by omega)]
        have hw2 := wi_in (rd l (i : Int)) 12 (by decide) (by decide)
        generalize wi (rd l (i : Int)) 12 = r at hw2 ⊢
        obtain ⟨r0, r1⟩ := hw2
        rw [if_pos r0]
        change ∃ r_1, (if r < (txt.length : Int) then (if s.size + (rdOf ByteArray.empty txt r).size ≤ 9223372036854775807 then damperlaw1_Text.l0 k l (s ++ rdOf ByteArray.empty txt r) (wrap64 ((i : Int) + 1)) else none) else none) = some r_1 ∧ r_1.size ≤ 48
        rw [if_pos (show r < (txt.length : Int) from r1)]
        obtain ⟨t, rfl⟩ := Int.eq_ofNat_of_zero_le r0
        have ht := txt_small t (by omega)
        rw [if_pos (by omega), w64_small _ (by omega) (by omega)]
        exact text_l0 l (m - 1) (i + 1) k _ (by omega) (by omega) (by omega) (by rw [ByteArray.size_append]; omega)
      · rw [if_neg h24]; exact ⟨s, rfl, by omega⟩
    · rw [if_neg h]; exact ⟨s, rfl, by omega⟩
theorem text_ok (l : List Int) : ∃ r, (∀ k, 26 ≤ k → damperlaw1_Text.f k l = some r) ∧ r.size ≤ 48 := by
  obtain ⟨r, hr, h2⟩ := text_l0 l 24 0 26 ⟨#[]⟩ rfl (by omega) (by omega) (by decide)
  refine ⟨r, fun k hk => ?_, h2⟩
  obtain ⟨r', hr', _⟩ := text_l0 l 24 0 k ⟨#[]⟩ rfl (by omega) (by omega) (by decide)
  have hm : ∀ j, damperlaw1_Text.l0 (26 + j) l ⟨#[]⟩ ((0 : Nat) : Int) = some r := by
    intro j
    induction j with
    | zero => exact hr
    | succ j ih => exact damperlaw1_Text.mono_l _ _ _ _ _ ih
  have := hm (k - 26)
  rw [show 26 + (k - 26) = k by omega] at this
  exact this
end Go.Proofs.YtckcimahclpdfaaDoor.Plain
