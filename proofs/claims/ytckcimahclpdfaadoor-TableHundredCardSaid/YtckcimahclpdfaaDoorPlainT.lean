/- Plain laws of tables: what the printed functions of both sides compute, in closed form. -/
import Derived.Test.YtckcimahclpdfaaDoorMax0
import Derived.Test.YtckcimahclpdfaaDoorMax6
import Derived.Test.YtckcimahclpdfaaDoorMax7
import Derived.Test.YtckcimahclpdfaaDoorMax8
import Derived.Test.YtckcimahclpdfaaDoorMax17
import Derived.Test.YtckcimahclpdfaaDoorPlain
import Derived.Test.YtckcimahclpdfaaDoorPlainM
import Derived.Test.YtckcimahclpdfaaDoorPlainR
import Derived.Test.YtckcimahclpdfaaDoorPlainDg
namespace Go.Proofs.YtckcimahclpdfaaDoor.Plain
open Go.RowKit Go.Proofs.YtckcimahclpdfaaDoor.Ma Go.Proofs.YtckcimahclpdfaaDoorW.PrintWords Go.Proofs.YtckcimahclpdfaaDoorW.PrintLast
set_option linter.unusedVariables false
set_option linter.unusedSimpArgs false

theorem rd32 (l : List S32) (i : Nat) (h : i < l.length) : rd_T32 l (i : Int) = l[i] := by
  show l.getD i z32 = l[i]
  rw [List.getD_eq_getElem?_getD, List.getElem?_eq_getElem h]; rfl
theorem rd35 (l : List S35) (i : Nat) (h : i < l.length) : rd_T35 l (i : Int) = l[i] := by
  show l.getD i z35 = l[i]
  rw [List.getD_eq_getElem?_getD, List.getElem?_eq_getElem h]; rfl
theorem rd62 (l : List S62) (i : Nat) (h : i < l.length) : rd_T62 l (i : Int) = l[i] := by
  show l.getD i z62 = l[i]
  rw [List.getD_eq_getElem?_getD, List.getElem?_eq_getElem h]; rfl
/-- A Share, a tag, as pairs of texts. -/
def shP (x : S32) : S62 := ⟨x.f0, ⟨(Lib.itoa x.f1).toArray⟩⟩
def tgP (x : S35) : S62 := ⟨x.f0, x.f1⟩
theorem texts_l1 (l : List S35) (hl : l.length ≤ 1000) (p : List S62) : ∀ (m i k : Nat) (acc : List S62), l.length - i = m → i ≤ l.length → acc.length ≤ 1000 + i → m + 1 ≤ k →
    table_texts.l1 k p acc l (l.length : Int) (i : Int) = some (p, acc ++ (l.drop i).map tgP)
  | m, i, k, acc, hm, hi, ha, hk => by
    obtain ⟨k, rfl⟩ : ∃ j, k = j + 1 := ⟨k - 1, by omega⟩
    rw [table_texts.l1]
    by_cases h : i < l.length
    · rw [if_pos (by omega), if_pos (by omega), if_pos (by omega), if_pos (by omega), rd35 l i h, w64_small _ (by omega) (by omega), show ((i : Int) + 1) = ((i + 1 : Nat) : Int) by omega,
        texts_l1 l hl p (m - 1) (i + 1) k _ (by omega) (by omega) (by simp; omega) (by omega), List.drop_eq_getElem_cons h, List.map_cons]
      simp [tgP]
    · rw [if_neg (by omega), List.drop_of_length_le (by omega)]; simp
set_option maxRecDepth 100000 in
theorem texts_l0 (l : List S32) (t : List S35) (hl : l.length ≤ 1000) (ht : t.length ≤ 1000) (hw : ∀ x ∈ l, -9223372036854775808 ≤ x.f1 ∧ x.f1 ≤ 9223372036854775807) (o0 : List S32) : ∀ (m i k : Nat) (acc : List S62), l.length - i = m → i ≤ l.length → acc.length ≤ 1000 + i → m + 1002 ≤ k →
    table_texts.l0 k acc l (l.length : Int) (i : Int) o0 t = some (acc ++ (l.drop i).map shP, t.map tgP)
  | m, i, k, acc, hm, hi, ha, hk => by
    obtain ⟨k, rfl⟩ : ∃ j, k = j + 1 := ⟨k - 1, by omega⟩
    rw [table_texts.l0]
    by_cases h : i < l.length
    · have hb := hw _ (List.getElem_mem h)
      rw [if_pos (by omega), if_pos (by omega), if_pos (by omega), rd32 l i h, strconv_Itoa_47.f, if_pos hb, Option.bind_some, if_pos (by omega), w64_small _ (by omega) (by omega), show ((i : Int) + 1) = ((i + 1 : Nat) : Int) by omega,
        texts_l0 l t hl ht hw o0 (m - 1) (i + 1) k _ (by omega) (by omega) (by simp; omega) (by omega), List.drop_eq_getElem_cons h, List.map_cons]
      simp [shP]
    · rw [if_neg (by omega), List.drop_of_length_le (by omega)]
      have := texts_l1 t ht acc t.length 0 k [] (by omega) (by omega) (by simp) (by omega)
      rw [show ((0 : Nat) : Int) = 0 from rfl, List.drop_zero] at this
      rw [this]; simp
/-- Tables of the sizes that are looked at. -/
def Small (l : List S32) (t : List S35) : Prop := l.length ≤ 20 ∧ t.length ≤ 20 ∧ (∀ x ∈ l, x.f0.size ≤ 100 ∧ 0 ≤ x.f1 ∧ x.f1 ≤ 999) ∧ (∀ x ∈ t, x.f0.size ≤ 100 ∧ x.f1.size ≤ 100)
theorem texts_eq {l : List S32} {t : List S35} (h : Small l t) (k : Nat) (hk : 2100 ≤ k) : table_texts.f k l t = some (l.map shP, t.map tgP) := by
  obtain ⟨h0, h1, h2, h3⟩ := h
  unfold table_texts.f
  have := texts_l0 l t (by omega) (by omega) (fun x hx => by have := h2 x hx; omega) l l.length 0 k [] (by omega) (by omega) (by simp) (by omega)
  rw [show ((0 : Nat) : Int) = 0 from rfl, List.drop_zero] at this
  rw [this]; simp
theorem itoa_len {n : Int} (h0 : 0 ≤ n) (h1 : n ≤ 999) : (Lib.itoa n).length ≤ 6 := by
  rw [itoa_dig n h0 (by omega)]; exact dig_len 6 _
/-- A pair, with a sign between. -/
def pc (c : UInt8) (p : S62) : ByteArray := p.f0 ++ (⟨#[c]⟩ : ByteArray) ++ p.f1
def joinB (l : List ByteArray) : ByteArray := ⟨(Lib.join (l.map (·.data.toList)) [32]).toArray⟩
theorem lens_le : ∀ (l : List ByteArray), (∀ x ∈ l, x.size ≤ 201) → Lib.lens (l.map (·.data.toList)) ≤ 201 * l.length
  | [], _ => by simp [Lib.lens]
  | x :: l, h => by
    have h1 := lens_le l (fun y hy => h y (by simp [hy]))
    have h2 : x.data.toList.length ≤ 201 := h x (by simp)
    simp only [Lib.lens, List.map_cons, List.sum_cons, List.length_cons] at h1 ⊢
    omega
theorem join_eq (l : List ByteArray) (hl : l.length ≤ 40) (h : ∀ x ∈ l, x.size ≤ 201) : strings_Join.f l (⟨#[32]⟩ : ByteArray) = some (joinB l) := by
  unfold strings_Join.f joinB
  rw [if_pos]
  refine ⟨by omega, ?_⟩
  show (Lib.join (l.map (·.data.toList)) [32]).length ≤ _
  cases l with
  | nil => simp [Lib.join_nil]
  | cons x l =>
    have h1 := lens_le l (fun y hy => h y (by simp [hy]))
    have h2 : x.data.toList.length ≤ 201 := h x (by simp)
    have h3 : l.length + 1 ≤ 40 := hl
    rw [List.map_cons, Lib.join_cons, List.length_append, Lib.joinTail_length, List.length_map]
    simp only [List.length_cons, List.length_nil]
    omega
theorem ttext_l1 (l : List S62) (hl : l.length ≤ 20) (h : ∀ x ∈ l, x.f0.size ≤ 100 ∧ x.f1.size ≤ 100) : ∀ (m i k : Nat) (acc : List ByteArray), l.length - i = m → i ≤ l.length → acc.length ≤ 20 + i → (∀ x ∈ acc, x.size ≤ 201) → m + 1 ≤ k →
    table_Text.l1 k acc l (l.length : Int) (i : Int) = some (joinB (acc ++ (l.drop i).map (pc 61)))
  | m, i, k, acc, hm, hi, ha, hb, hk => by
    obtain ⟨k, rfl⟩ : ∃ j, k = j + 1 := ⟨k - 1, by omega⟩
    rw [table_Text.l1]
    by_cases h1 : i < l.length
    · have hx := h _ (List.getElem_mem h1)
      have hs : (⟨#[61]⟩ : ByteArray).size = 1 := rfl
      rw [if_pos (by omega), if_pos (by omega), if_pos (by omega), rd62 l i h1, if_pos (by omega), if_pos (by rw [ByteArray.size_append]; omega), if_pos (by omega), w64_small _ (by omega) (by omega), show ((i : Int) + 1) = ((i + 1 : Nat) : Int) by omega,
        ttext_l1 l hl h (m - 1) (i + 1) k _ (by omega) (by omega) (by simp; omega) ?_ (by omega), List.drop_eq_getElem_cons h1, List.map_cons]
      · simp [pc]
      · intro x hx2
        rcases List.mem_append.1 hx2 with hx2 | hx2
        · exact hb x hx2
        · obtain rfl := List.mem_singleton.1 hx2
          rw [ByteArray.size_append, ByteArray.size_append]; omega
    · rw [if_neg (by omega), List.drop_of_length_le (by omega), join_eq acc (by omega) hb]; simp
theorem ttext_l0 (l t : List S62) (hl : l.length ≤ 20) (ht : t.length ≤ 20) (h : ∀ x ∈ l, x.f0.size ≤ 100 ∧ x.f1.size ≤ 100) (h2 : ∀ x ∈ t, x.f0.size ≤ 100 ∧ x.f1.size ≤ 100) : ∀ (m i k : Nat) (acc : List ByteArray), l.length - i = m → i ≤ l.length → acc.length ≤ i → (∀ x ∈ acc, x.size ≤ 201) → m + 22 ≤ k →
    table_Text.l0 k t acc l (l.length : Int) (i : Int) = some (joinB (acc ++ (l.drop i).map (pc 58) ++ t.map (pc 61)))
  | m, i, k, acc, hm, hi, ha, hb, hk => by
    obtain ⟨k, rfl⟩ : ∃ j, k = j + 1 := ⟨k - 1, by omega⟩
    rw [table_Text.l0]
    by_cases h1 : i < l.length
    · have hx := h _ (List.getElem_mem h1)
      have hs : (⟨#[58]⟩ : ByteArray).size = 1 := rfl
      rw [if_pos (by omega), if_pos (by omega), if_pos (by omega), rd62 l i h1, if_pos (by omega), if_pos (by rw [ByteArray.size_append]; omega), if_pos (by omega), w64_small _ (by omega) (by omega), show ((i : Int) + 1) = ((i + 1 : Nat) : Int) by omega,
        ttext_l0 l t hl ht h h2 (m - 1) (i + 1) k _ (by omega) (by omega) (by simp; omega) ?_ (by omega), List.drop_eq_getElem_cons h1, List.map_cons]
      · simp [pc]
      · intro x hx2
        rcases List.mem_append.1 hx2 with hx2 | hx2
        · exact hb x hx2
        · obtain rfl := List.mem_singleton.1 hx2
          rw [ByteArray.size_append, ByteArray.size_append]; omega
    · rw [if_neg (by omega), List.drop_of_length_le (by omega)]
      have := ttext_l1 t ht h2 t.length 0 k acc (by omega) (by omega) (by omega) hb (by omega)
      rw [show ((0 : Nat) : Int) = 0 from rfl, List.drop_zero] at this
      rw [this]; simp
theorem shP_small {l : List S32} {t : List S35} (h : Small l t) : (∀ x ∈ l.map shP, x.f0.size ≤ 100 ∧ x.f1.size ≤ 100) ∧ (∀ x ∈ t.map tgP, x.f0.size ≤ 100 ∧ x.f1.size ≤ 100) := by
  constructor
  · intro x hx
    obtain ⟨y, hy, rfl⟩ := List.mem_map.1 hx
    have := h.2.2.1 y hy
    have h2 := itoa_len this.2.1 this.2.2
    refine ⟨this.1, ?_⟩
    show (⟨(Lib.itoa y.f1).toArray⟩ : ByteArray).size ≤ 100
    have e : (⟨(Lib.itoa y.f1).toArray⟩ : ByteArray).size = (Lib.itoa y.f1).length := by simp [ByteArray.size]
    omega
  · intro x hx
    obtain ⟨y, hy, rfl⟩ := List.mem_map.1 hx
    exact h.2.2.2 y hy
/-- The pieces of a table's text, and the text. -/
def pieces (l : List S32) (t : List S35) : List ByteArray := (l.map shP).map (pc 58) ++ (t.map tgP).map (pc 61)
theorem text_eq {l : List S32} {t : List S35} (h : Small l t) (k : Nat) (hk : 2100 ≤ k) : table_Text.f k l t = some (joinB (pieces l t)) := by
  unfold table_Text.f
  have hs := shP_small h
  rw [texts_eq h k hk, Option.bind_some]
  have := ttext_l0 (l.map shP) (t.map tgP) (by rw [List.length_map]; exact h.1) (by rw [List.length_map]; exact h.2.1) hs.1 hs.2 (l.map shP).length 0 k [] (by omega) (by omega) (by simp) (by simp) (by rw [List.length_map]; have := h.1; omega)
  rw [show ((0 : Nat) : Int) = 0 from rfl, List.drop_zero] at this
  rw [this]; simp [pieces]
/-- Where a draw leads. -/
def pickL : List S32 → Int → ByteArray
  | [], _ => ⟨#[]⟩
  | x :: xs, d => if d < x.f1 then x.f0 else pickL xs (d - x.f1)
def in100 (d : Int) : Int := Int.tmod (Int.tmod d 100 + 100) 100
theorem in100_in (d : Int) : 0 ≤ in100 d ∧ in100 d < 100 ∧ ∃ q, d = 100 * q + in100 d := by
  unfold in100
  have h := Int.tmod_lt_of_pos d (show (0 : Int) < 100 by decide)
  have h3 := Int.tmod_lt_of_pos (-d) (show (0 : Int) < 100 by decide)
  rw [Int.neg_tmod] at h3
  have e := Int.mul_tdiv_add_tmod d 100
  have h5 : 0 ≤ Int.tmod d 100 + 100 := by omega
  rw [Int.tmod_eq_emod_of_nonneg h5]
  refine ⟨by omega, by omega, ?_⟩
  by_cases c : 0 ≤ Int.tmod d 100
  · exact ⟨Int.tdiv d 100, by omega⟩
  · exact ⟨Int.tdiv d 100 - 1, by omega⟩
theorem in100_w (d : Int) : Int.tmod (wrap64 ((Int.tmod d 100) + 100)) 100 = in100 d := by
  have h := Int.tmod_lt_of_pos d (show (0 : Int) < 100 by decide)
  have h3 := Int.tmod_lt_of_pos (-d) (show (0 : Int) < 100 by decide)
  rw [Int.neg_tmod] at h3
  unfold in100
  rw [w64_small _ (by omega) (by omega)]
theorem pick_l0 (l : List S32) (o : List S32) (hl : l.length ≤ 20) (h : ∀ x ∈ l, 0 ≤ x.f1 ∧ x.f1 ≤ 999) : ∀ (m i k : Nat) (d : Int), l.length - i = m → i ≤ l.length → -(1000 * (i : Int)) ≤ d → d ≤ 100 → m + 1 ≤ k →
    table_Pick.l0 k d l (l.length : Int) (i : Int) = some (pickL (l.drop i) d)
  | m, i, k, d, hm, hi, h0, h1, hk => by
    obtain ⟨k, rfl⟩ : ∃ j, k = j + 1 := ⟨k - 1, by omega⟩
    rw [table_Pick.l0]
    by_cases h2 : i < l.length
    · have hx := h _ (List.getElem_mem h2)
      rw [if_pos (by omega), if_pos (by omega), if_pos (by omega), rd32 l i h2, List.drop_eq_getElem_cons h2, pickL]
      by_cases h3 : d < l[i].f1
      · rw [if_pos h3, if_pos h3]
      · rw [if_neg h3, if_neg h3, w64_small _ (by omega) (by omega), w64_small _ (by omega) (by omega), show ((i : Int) + 1) = ((i + 1 : Nat) : Int) by omega]
        exact pick_l0 l o hl h (m - 1) (i + 1) k _ (by omega) (by omega) (by omega) (by omega) (by omega)
    · rw [if_neg (by omega), List.drop_of_length_le (by omega)]; rfl
theorem pick_eq {l : List S32} {t : List S35} (h : Small l t) (d : Int) (k : Nat) (hk : 30 ≤ k) : table_Pick.f k l t d = some (pickL l (in100 d)) := by
  unfold table_Pick.f
  have hi := in100_in d
  have := pick_l0 l l h.1 (fun x hx => (h.2.2.1 x hx).2) l.length 0 k (in100 d) (by omega) (by omega) (by omega) (by omega) (by have := h.1; omega)
  rw [in100_w]
  rw [show ((0 : Nat) : Int) = 0 from rfl, List.drop_zero] at this
  exact this
theorem rpick_l0 (l : List S32) (t : List S35) (hl : l.length ≤ 20) (h : ∀ x ∈ l, 0 ≤ x.f1 ∧ x.f1 ≤ 999) : ∀ (m i k : Nat) (d : Int), l.length - i = m → i ≤ l.length → -(1000 * (i : Int)) ≤ d → d ≤ 100 → m + 1 ≤ k →
    damperref5_Pick.l0 k d (i : Int) l t = some (pickL (l.drop i) d)
  | m, i, k, d, hm, hi, h0, h1, hk => by
    obtain ⟨k, rfl⟩ : ∃ j, k = j + 1 := ⟨k - 1, by omega⟩
    rw [damperref5_Pick.l0]
    by_cases h2 : i < l.length
    · have hx := h _ (List.getElem_mem h2)
      rw [if_pos (by omega), if_pos (by omega), rd32 l i h2, List.drop_eq_getElem_cons h2, pickL]
      by_cases h3 : d < l[i].f1
      · rw [if_pos h3, if_pos h3]
      · rw [if_neg h3, if_neg h3, w64_small _ (by omega) (by omega), w64_small _ (by omega) (by omega), show ((i : Int) + 1) = ((i + 1 : Nat) : Int) by omega]
        exact rpick_l0 l t hl h (m - 1) (i + 1) k _ (by omega) (by omega) (by omega) (by omega) (by omega)
    · rw [if_neg (by omega), List.drop_of_length_le (by omega)]; rfl
theorem rpick_eq {l : List S32} {t : List S35} (h : Small l t) (d : Int) (k : Nat) (hk : 30 ≤ k) : damperref5_Pick.f k l t d = some (pickL l (in100 d)) := by
  unfold damperref5_Pick.f
  have hi := in100_in d
  have := rpick_l0 l t h.1 (fun x hx => (h.2.2.1 x hx).2) l.length 0 k (in100 d) (by omega) (by omega) (by omega) (by omega) (by have := h.1; omega)
  rw [in100_w]
  rw [show ((0 : Nat) : Int) = 0 from rfl, List.drop_zero] at this
  exact this
/-- Are the names of Shares, and the Shares, such that a table may be. -/
def goodS : List S32 → Bool
  | [] => true
  | x :: xs => ((splitV x.f0).2.2 && decide (1 ≤ x.f1 ∧ x.f1 ≤ 100)) && goodS xs
def goodT : List S35 → Bool
  | [] => true
  | x :: xs => (shortL x.f0.data.toList 8 && (splitV x.f1).2.2) && goodT xs
def sumS : List S32 → Int
  | [] => 0
  | x :: xs => x.f1 + sumS xs
def wrapS : Int → List S32 → Int
  | s, [] => s
  | s, x :: xs => wrapS (wrap64 (s + x.f1)) xs
theorem named_eq (s : ByteArray) (h : s.size ≤ 140737488351232) : table_named.f s = some (splitV s).2.2 := by
  unfold table_named.f
  rw [split_eq s h, Option.bind_some]
theorem rs1_eq : ∀ (l : List S32) (s : Int), (∀ x ∈ l, x.f0.size ≤ 140737488351232) → rs1 l s = some (if goodS l = true then some (wrapS s l) else none)
  | [], s, _ => rfl
  | x :: xs, s, h => by
    rw [rs1, named_eq _ (h x (by simp)), Option.bind_some, goodS, wrapS]
    by_cases c : (splitV x.f0).2.2 = true ∧ 1 ≤ x.f1 ∧ x.f1 ≤ 100
    · rw [if_pos c, rs1_eq xs _ (fun y hy => h y (by simp [hy])), c.1, decide_eq_true c.2, Bool.and_self, Bool.true_and]
    · rw [if_neg c, if_neg]
      intro hh
      simp only [Bool.and_eq_true, decide_eq_true_eq] at hh
      exact c hh.1
end Go.Proofs.YtckcimahclpdfaaDoor.Plain
