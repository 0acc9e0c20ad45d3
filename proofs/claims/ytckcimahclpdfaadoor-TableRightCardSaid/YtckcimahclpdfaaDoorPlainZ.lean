/- Plain laws of tables, as far as what is right asks them. -/
import Derived.Test.YtckcimahclpdfaaDoorMax0
import Derived.Test.YtckcimahclpdfaaDoorMax6
import Derived.Test.YtckcimahclpdfaaDoorMax7
import Derived.Test.YtckcimahclpdfaaDoorMax8
import Derived.Test.YtckcimahclpdfaaDoorMax9
import Derived.Test.YtckcimahclpdfaaDoorMax10
import Derived.Test.YtckcimahclpdfaaDoorPlain
import Derived.Test.YtckcimahclpdfaaDoorPlainM
import Derived.Test.YtckcimahclpdfaaDoorPlainR
import Derived.Test.YtckcimahclpdfaaDoorPlainDg
namespace Go.Proofs.YtckcimahclpdfaaDoor.Plain
open Go.RowKit Go.Proofs.YtckcimahclpdfaaDoor.Ma Go.Proofs.YtckcimahclpdfaaDoorW.PrintWords Go.Proofs.YtckcimahclpdfaaDoorW.PrintLast
set_option linter.unusedVariables false
set_option linter.unusedSimpArgs false

theorem rd32 (l : List S32) (i : Nat) (h : i < l.length) : rd_T32 l (i : Int) = l[i] := by
  show l.getD i z32 = l[i]
  rw [List.getD_eq_getElem?_getD, List.getElem?_eq_getElem h]; rfl
theorem rd35 (l : List S35) (i : Nat) (h : i < l.length) : rd_T35 l (i : Int) = l[i] := by
  show l.getD i z35 = l[i]
  rw [List.getD_eq_getElem?_getD, List.getElem?_eq_getElem h]; rfl
theorem rd62 (l : List S62) (i : Nat) (h : i < l.length) : rd_T62 l (i : Int) = l[i] := by
  show l.getD i z62 = l[i]
  rw [List.getD_eq_getElem?_getD, List.getElem?_eq_getElem h]; rfl
/-- A Share, a tag, as pairs of texts. -/
def shP (x : S32) : S62 := ⟨x.f0, ⟨(Lib.itoa x.f1).toArray⟩⟩
def tgP (x : S35) : S62 := ⟨x.f0, x.f1⟩
theorem texts_l1 (l : List S35) (hl : l.length ≤ 1000) (p : List S62) : ∀ (m i k : Nat) (acc : List S62), l.length - i = m → i ≤ l.length → acc.length ≤ 1000 + i → m + 1 ≤ k →
    table_texts.l1 k p acc l (l.length : Int) (i : Int) = some (p, acc ++ (l.drop i).map tgP)
  | m, i, k, acc, hm, hi, ha, hk => by
    obtain ⟨k, rfl⟩ : ∃ j, k = j + 1 := ⟨k - 1, by omega⟩
    rw [table_texts.l1]
    by_cases h : i < l.length
    · rw [if_pos (by omega), if_pos (by omega), if_pos (by omega), if_pos (by omega), rd35 l i h, w64_small _ (by omega) (by omega), show ((i : Int) + 1) = ((i + 1 : Nat) : Int) by omega,
        texts_l1 l hl p (m - 1) (i + 1) k _ (by omega) (by omega) (by simp; omega) (by omega), List.drop_eq_getElem_cons h, List.map_cons]
      simp [tgP]
    · rw [if_neg (by omega), List.drop_of_length_le (by omega)]; simp
set_option maxRecDepth 100000 in
theorem texts_l0 (l : List S32) (t : List S35) (hl : l.length ≤ 1000) (ht : t.length ≤ 1000) (hw : ∀ x ∈ l, -9223372036854775808 ≤ x.f1 ∧ x.f1 ≤ 9223372036854775807) (o0 : List S32) : ∀ (m i k : Nat) (acc : List S62), l.length - i = m → i ≤ l.length → acc.length ≤ 1000 + i → m + 1002 ≤ k →
    table_texts.l0 k acc l (l.length : Int) (i : Int) o0 t = some (acc ++ (l.drop i).map shP, t.map tgP)
  | m, i, k, acc, hm, hi, ha, hk => by
    obtain ⟨k, rfl⟩ : ∃ j, k = j + 1 := ⟨k - 1, by omega⟩
    rw [table_texts.l0]
    by_cases h : i < l.length
    · have hb := hw _ (List.getElem_mem h)
      rw [if_pos (by omega), if_pos (by omega), if_pos (by omega), rd32 l i h, strconv_Itoa_47.f, if_pos hb, Option.bind_some, if_pos (by omega), w64_small _ (by omega) (by omega), show ((i : Int) + 1) = ((i + 1 : Nat) : Int) by omega,
        texts_l0 l t hl ht hw o0 (m - 1) (i + 1) k _ (by omega) (by omega) (by simp; omega) (by omega), List.drop_eq_getElem_cons h, List.map_cons]
      simp [shP]
    · rw [if_neg (by omega), List.drop_of_length_le (by omega)]
      have := texts_l1 t ht acc t.length 0 k [] (by omega) (by omega) (by simp) (by omega)
      rw [show ((0 : Nat) : Int) = 0 from rfl, List.drop_zero] at this
      rw [this]; simp
/-- Tables of the sizes that are looked at. -/
def Small (l : List S32) (t : List S35) : Prop := l.length ≤ 20 ∧ t.length ≤ 20 ∧ (∀ x ∈ l, x.f0.size ≤ 100 ∧ 0 ≤ x.f1 ∧ x.f1 ≤ 999) ∧ (∀ x ∈ t, x.f0.size ≤ 100 ∧ x.f1.size ≤ 100)
theorem texts_eq {l : List S32} {t : List S35} (h : Small l t) (k : Nat) (hk : 2100 ≤ k) : table_texts.f k l t = some (l.map shP, t.map tgP) := by
  obtain ⟨h0, h1, h2, h3⟩ := h
  unfold table_texts.f
  have := texts_l0 l t (by omega) (by omega) (fun x hx => by have := h2 x hx; omega) l l.length 0 k [] (by omega) (by omega) (by simp) (by omega)
  rw [show ((0 : Nat) : Int) = 0 from rfl, List.drop_zero] at this
  rw [this]; simp
theorem itoa_len {n : Int} (h0 : 0 ≤ n) (h1 : n ≤ 999) : (Lib.itoa n).length ≤ 6 := by
  rw [itoa_dig n h0 (by omega)]; exact dig_len 6 _
/-- A pair, with a sign between. -/
def pc (c : UInt8) (p : S62) : ByteArray := p.f0 ++ (⟨#[c]⟩ : ByteArray) ++ p.f1
def joinB (l : List ByteArray) : ByteArray := ⟨(Lib.join (l.map (·.data.toList)) [32]).toArray⟩
theorem lens_le : ∀ (l : List ByteArray), (∀ x ∈ l, x.size ≤ 201) → Lib.lens (l.map (·.data.toList)) ≤ 201 * l.length
  | [], _ => by simp [Lib.lens]
  | x :: l, h => by
    have h1 := lens_le l (fun y hy => h y (by simp [hy]))
    have h2 : x.data.toList.length ≤ 201 := h x (by simp)
    simp only [Lib.lens, List.map_cons, List.sum_cons, List.length_cons] at h1 ⊢
    omega
theorem join_eq (l : List ByteArray) (hl : l.length ≤ 40) (h : ∀ x ∈ l, x.size ≤ 201) : strings_Join.f l (⟨#[32]⟩ : ByteArray) = some (joinB l) := by
  unfold strings_Join.f joinB
  rw [if_pos]
  refine ⟨by omega, ?_⟩
  show (Lib.join (l.map (·.data.toList)) [32]).length ≤ _
  cases l with
  | nil => simp [Lib.join_nil]
  | cons x l =>
    have h1 := lens_le l (fun y hy => h y (by simp [hy]))
    have h2 : x.data.toList.length ≤ 201 := h x (by simp)
    have h3 : l.length + 1 ≤ 40 := hl
    rw [List.map_cons, Lib.join_cons, List.length_append, Lib.joinTail_length, List.length_map]
    simp only [List.length_cons, List.length_nil]
    omega
theorem ttext_l1 (l : List S62) (hl : l.length ≤ 20) (h : ∀ x ∈ l, x.f0.size ≤ 100 ∧ x.f1.size ≤ 100) : ∀ (m i k : Nat) (acc : List ByteArray), l.length - i = m → i ≤ l.length → acc.length ≤ 20 + i → (∀ x ∈ acc, x.size ≤ 201) → m + 1 ≤ k →
    table_Text.l1 k acc l (l.length : Int) (i : Int) = some (joinB (acc ++ (l.drop i).map (pc 61)))
  | m, i, k, acc, hm, hi, ha, hb, hk => by
    obtain ⟨k, rfl⟩ : ∃ j, k = j + 1 := ⟨k - 1, by omega⟩
    rw [table_Text.l1]
    by_cases h1 : i < l.length
    · have hx := h _ (List.getElem_mem h1)
      have hs : (⟨#[61]⟩ : ByteArray).size = 1 := rfl
      rw [if_pos (by omega), if_pos (by omega), if_pos (by omega), rd62 l i h1, if_pos (by omega), if_pos (by rw [ByteArray.size_append]; omega), if_pos (by omega), w64_small _ (by omega) (by omega), show ((i : Int) + 1) = ((i + 1 : Nat) : Int) by omega,
        ttext_l1 l hl h (m - 1) (i + 1) k _ (by omega) (by omega) (by simp; omega) ?_ (by omega), List.drop_eq_getElem_cons h1, List.map_cons]
      · simp [pc]
      · intro x hx2
        rcases List.mem_append.1 hx2 with hx2 | hx2
        · exact hb x hx2
        · obtain rfl := List.mem_singleton.1 hx2
          rw [ByteArray.size_append, ByteArray.size_append]; omega
    · rw [if_neg (by omega), List.drop_of_length_le (by omega), join_eq acc (by omega) hb]; simp
theorem ttext_l0 (l t : List S62) (hl : l.length ≤ 20) (ht : t.length ≤ 20) (h : ∀ x ∈ l, x.f0.size ≤ 100 ∧ x.f1.size ≤ 100) (h2 : ∀ x ∈ t, x.f0.size ≤ 100 ∧ x.f1.size ≤ 100) : ∀ (m i k : Nat) (acc : List ByteArray), l.length - i = m → i ≤ l.length → acc.length ≤ i → (∀ x ∈ acc, x.size ≤ 201) → m + 22 ≤ k →
    table_Text.l0 k t acc l (l.length : Int) (i : Int) = some (joinB (acc ++ (l.drop i).map (pc 58) ++ t.map (pc 61)))
  | m, i, k, acc, hm, hi, ha, hb, hk => by
    obtain ⟨k, rfl⟩ : ∃ j, k = j + 1 := ⟨k - 1, by omega⟩
    rw [table_Text.l0]
    by_cases h1 : i < l.length
    · have hx := h _ (List.getElem_mem h1)
      have hs : (⟨#[58]⟩ : ByteArray).size = 1 := rfl
      rw [if_pos (by omega), if_pos (by omega), if_pos (by omega), rd62 l i h1, if_pos (by omega), if_pos (by rw [ByteArray.size_append]; omega), if_pos (by omega), w64_small _ (by omega) (by omega), show ((i : Int) + 1) = ((i + 1 : Nat) : Int) by omega,
        ttext_l0 l t hl ht h h2 (m - 1) (i + 1) k _ (by omega) (by omega) (by simp; omega) ?_ (by omega), List.drop_eq_getElem_cons h1, List.map_cons]
      · simp [pc]
      · intro x hx2
        rcases List.mem_append.1 hx2 with hx2 | hx2
        · exact hb x hx2
        · obtain rfl := List.mem_singleton.1 hx2
          rw [ByteArray.size_append, ByteArray.size_append]; omega
    · rw [if_neg (by omega), List.drop_of_length_le (by omega)]
      have := ttext_l1 t ht h2 t.length 0 k acc (by omega) (by omega) (by omega) hb (by omega)
      rw [show ((0 : Nat) : Int) = 0 from rfl, List.drop_zero] at this
      rw [this]; simp
theorem shP_small {l : List S32} {t : List S35} (h : Small l t) : (∀ x ∈ l.map shP, x.f0.size ≤ 100 ∧ x.f1.size ≤ 100) ∧ (∀ x ∈ t.map tgP, x.f0.size ≤ 100 ∧ x.f1.size ≤ 100) := by
  constructor
  · intro x hx
    obtain ⟨y, hy, rfl⟩ := List.mem_map.1 hx
    have := h.2.2.1 y hy
    have h2 := itoa_len this.2.1 this.2.2
    refine ⟨this.1, ?_⟩
    show (⟨(Lib.itoa y.f1).toArray⟩ : ByteArray).size ≤ 100
    have e : (⟨(Lib.itoa y.f1).toArray⟩ : ByteArray).size = (Lib.itoa y.f1).length := by simp [ByteArray.size]
    omega
  · intro x hx
    obtain ⟨y, hy, rfl⟩ := List.mem_map.1 hx
    exact h.2.2.2 y hy
/-- The pieces of a table's text, and the text. -/
def pieces (l : List S32) (t : List S35) : List ByteArray := (l.map shP).map (pc 58) ++ (t.map tgP).map (pc 61)
theorem text_eq {l : List S32} {t : List S35} (h : Small l t) (k : Nat) (hk : 2100 ≤ k) : table_Text.f k l t = some (joinB (pieces l t)) := by
  unfold table_Text.f
  have hs := shP_small h
  rw [texts_eq h k hk, Option.bind_some]
  have := ttext_l0 (l.map shP) (t.map tgP) (by rw [List.length_map]; exact h.1) (by rw [List.length_map]; exact h.2.1) hs.1 hs.2 (l.map shP).length 0 k [] (by omega) (by omega) (by simp) (by simp) (by rw [List.length_map]; have := h.1; omega)
  rw [show ((0 : Nat) : Int) = 0 from rfl, List.drop_zero] at this
  rw [this]; simp [pieces]
/-- Where a draw leads. -/
def pickL : List S32 → Int → ByteArray
  | [], _ => ⟨#[]⟩
  | x :: xs, d => if d < x.f1 then x.f0 else pickL xs (d - x.f1)
def in100 (d : Int) : Int := Int.tmod (Int.tmod d 100 + 100) 100
theorem in100_in (d : Int) : 0 ≤ in100 d ∧ in100 d < 100 ∧ ∃ q, d = 100 * q + in100 d := by
  unfold in100
  have h := Int.tmod_lt_of_pos d (show (0 : Int) < 100 by decide)
  have h3 := Int.tmod_lt_of_pos (-d) (show (0 : Int) < 100 by decide)
  rw [Int.neg_tmod] at h3
  have e := Int.mul_tdiv_add_tmod d 100
  have h5 : 0 ≤ Int.tmod d 100 + 100 := by omega
  rw [Int.tmod_eq_emod_of_nonneg h5]
  refine ⟨by omega, by omega, ?_⟩
  by_cases c : 0 ≤ Int.tmod d 100
  · exact ⟨Int.tdiv d 100, by omega⟩
  · exact ⟨Int.tdiv d 100 - 1, by omega⟩
theorem in100_w (d : Int) : Int.tmod (wrap64 ((Int.tmod d 100) + 100)) 100 = in100 d := by
  have h := Int.tmod_lt_of_pos d (show (0 : Int) < 100 by decide)
  have h3 := Int.tmod_lt_of_pos (-d) (show (0 : Int) < 100 by decide)
  rw [Int.neg_tmod] at h3
  unfold in100
  rw [w64_small _ (by omega) (by omega)]
theorem pick_l0 (l : List S32) (o : List S32) (hl : l.length ≤ 20) (h : ∀ x ∈ l, 0 ≤ x.f1 ∧ x.f1 ≤ 999) : ∀ (m i k : Nat) (d : Int), l.length - i = m → i ≤ l.length → -(1000 * (i : Int)) ≤ d → d ≤ 100 → m + 1 ≤ k →
    table_Pick.l0 k d l (l.length : Int) (i : Int) = some (pickL (l.drop i) d)
  | m, i, k, d, hm, hi, h0, h1, hk => by
    obtain ⟨k, rfl⟩ : ∃ j, k = j + 1 := ⟨k - 1, by omega⟩
    rw [table_Pick.l0]
    by_cases h2 : i < l.length
    · have hx := h _ (List.getElem_mem h2)
      rw [if_pos (by omega), if_pos (by omega), if_pos (by omega), rd32 l i h2, List.drop_eq_getElem_cons h2, pickL]
      by_cases h3 : d < l[i].f1
      · rw [if_pos h3, if_pos h3]
      · rw [if_neg h3, if_neg h3, w64_small _ (by omega) (by omega), w64_small _ (by omega) (by omega), show ((i : Int) + 1) = ((i + 1 : Nat) : Int) by omega]
        exact pick_l0 l o hl h (m - 1) (i + 1) k _ (by omega) (by omega) (by omega) (by omega) (by omega)
    · rw [if_neg (by omega), List.drop_of_length_le (by omega)]; rfl
theorem pick_eq {l : List S32} {t : List S35} (h : Small l t) (d : Int) (k : Nat) (hk : 30 ≤ k) : table_Pick.f k l t d = some (pickL l (in100 d)) := by
  unfold table_Pick.f
  have hi := in100_in d
  have := pick_l0 l l h.1 (fun x hx => (h.2.2.1 x hx).2) l.length 0 k (in100 d) (by omega) (by omega) (by omega) (by omega) (by have := h.1; omega)
  rw [in100_w]
  rw [show ((0 : Nat) : Int) = 0 from rfl, List.drop_zero] at this
  exact this
/-- Are the names of Shares, and the Shares, such that a table may be. -/
def goodS : List S32 → Bool
  | [] => true
  | x :: xs => ((splitV x.f0).2.2 && decide (1 ≤ x.f1 ∧ x.f1 ≤ 100)) && goodS xs
def goodT : List S35 → Bool
  | [] => true
  | x :: xs => (shortL x.f0.data.toList 8 && (splitV x.f1).2.2) && goodT xs
def sumS : List S32 → Int
  | [] => 0
  | x :: xs => x.f1 + sumS xs
def wrapS : Int → List S32 → Int
  | s, [] => s
  | s, x :: xs => wrapS (wrap64 (s + x.f1)) xs
theorem named_eq (s : ByteArray) (h : s.size ≤ 140737488351232) : table_named.f s = some (splitV s).2.2 := by
  unfold table_named.f
  rw [split_eq s h, Option.bind_some]
theorem rs1_eq : ∀ (l : List S32) (s : Int), (∀ x ∈ l, x.f0.size ≤ 140737488351232) → rs1 l s = some (if goodS l = true then some (wrapS s l) else none)
  | [], s, _ => rfl
  | x :: xs, s, h => by
    rw [rs1, named_eq _ (h x (by simp)), Option.bind_some, goodS, wrapS]
    by_cases c : (splitV x.f0).2.2 = true ∧ 1 ≤ x.f1 ∧ x.f1 ≤ 100
    · rw [if_pos c, rs1_eq xs _ (fun y hy => h y (by simp [hy])), c.1, decide_eq_true c.2, Bool.and_self, Bool.true_and]
    · rw [if_neg c, if_neg]
      intro hh
      simp only [Bool.and_eq_true, decide_eq_true_eq] at hh
      exact c hh.1

theorem wrapS_eq : ∀ (l : List S32) (s : Int) (c : Nat), goodS l = true → l.length + c ≤ 1000 → 0 ≤ s → s ≤ 100 * (c : Int) → wrapS s l = s + sumS l
  | [], s, c, _, _, _, _ => by simp [wrapS, sumS]
  | x :: xs, s, c, hg, hl, h0, h1 => by
    simp only [goodS, Bool.and_eq_true, decide_eq_true_eq] at hg
    simp only [List.length_cons] at hl
    rw [wrapS, sumS, w64_small _ (by omega) (by omega), wrapS_eq xs _ (c + 1) hg.2 (by omega) (by omega) (by omega)]
    omega
theorem rs2_eq : ∀ (l : List S35), (∀ x ∈ l, x.f1.size ≤ 140737488351232) → rs2 l = some (goodT l)
  | [], _ => rfl
  | x :: xs, h => by
    rw [rs2, tag_eq, Option.bind_some, named_eq _ (h x (by simp)), goodT]
    cases shortL x.f0.data.toList 8
    · rfl
    · rw [if_pos rfl, Option.bind_some]
      cases (splitV x.f1).2.2
      · rfl
      · rw [if_pos rfl, rs2_eq xs (fun y hy => h y (by simp [hy]))]; rfl
/-- May the table be. -/
def rightB (l : List S32) (t : List S35) : Bool := goodS l && (goodT t && (sumS l == 100 && (Rise.rise (l.map (·.f0)) && Rise.rise (t.map (·.f0)))))
theorem right_eq (l : List S32) (t : List S35) (hl : l.length ≤ 1000) (h0 : ∀ x ∈ l, x.f0.size ≤ 140737488351232) (h1 : ∀ x ∈ t, x.f1.size ≤ 140737488351232) : table_Right.f l t = some (rightB l t) := by
  unfold table_Right.f rightB
  rw [rs1_eq l 0 h0, Option.bind_some]
  by_cases c : goodS l = true
  · rw [if_pos c, c, Bool.true_and, wrapS_eq l 0 0 c (by omega) (by omega) (by omega), Int.zero_add]
    show (rs2 t).bind _ = _
    rw [rs2_eq t h1]
    rfl
  · rw [if_neg c, Bool.eq_false_iff.2 c]; rfl
theorem Small.right {l : List S32} {t : List S35} (h : Small l t) : table_Right.f l t = some (rightB l t) :=
  right_eq l t (by have := h.1; omega) (fun x hx => by have := (h.2.2.1 x hx).1; omega) (fun x hx => by have := (h.2.2.2 x hx).2; omega)
theorem known_ok (k : Nat) (hk : 2100 ≤ k) : damperlaw5_known.f k = some true := by
  have hS : Small [⟨(⟨#[119, 101, 98, 45, 49]⟩ : ByteArray), 100⟩] [] := ⟨by decide, by decide, by intro x hx; obtain rfl := List.mem_singleton.1 hx; exact ⟨by decide, by decide, by decide⟩, by intro x hx; cases hx⟩
  have hE : Small [] [] := ⟨by decide, by decide, (fun x hx => by cases hx), (fun x hx => by cases hx)⟩
  have ex1 : (joinB (pieces [⟨(⟨#[119, 101, 98, 45, 49]⟩ : ByteArray), 100⟩] [])).toList = [119, 101, 98, 45, 49, 58, 49, 48, 48] := by
    rw [Lib.toList_data]
    show Lib.join [((⟨#[119, 101, 98, 45, 49]⟩ : ByteArray) ++ (⟨#[58]⟩ : ByteArray) ++ (⟨(Lib.itoa 100).toArray⟩ : ByteArray)).data.toList] [32] = _
    rw [itoa_dig 100 (by decide) (by decide), Lib.join_one]
    decide
  unfold damperlaw5_known.f
  simp only [Option.bind_some]
  rw [text_eq hS k hk, Option.bind_some, if_pos ex1, pick_eq hS 5 k (by omega), Option.bind_some, if_pos (by rw [Lib.toList_data]; decide), hS.right, Option.bind_some, if_pos (by decide), hE.right]
  decide
def rnames : List ByteArray := [(⟨#[97, 112, 105, 45, 49]⟩ : ByteArray), (⟨#[97, 112, 105, 45, 50]⟩ : ByteArray), (⟨#[119, 101, 98, 45, 49]⟩ : ByteArray), (⟨#[119, 101, 98, 45, 49, 50]⟩ : ByteArray), (⟨#[119, 101, 98, 45, 50]⟩ : ByteArray), (⟨#[119, 101, 98, 45, 51]⟩ : ByteArray)]
def tnames : List ByteArray := [(⟨#[116, 48]⟩ : ByteArray), (⟨#[116, 49]⟩ : ByteArray), (⟨#[116, 50]⟩ : ByteArray), (⟨#[116, 51]⟩ : ByteArray)]
/-- Shares behind the first i names: what is drawn so far, left is not given away. -/
def ShI (i : Nat) (left : Int) (l : List S32) : Prop := (l.map (·.f0)).Sublist (rnames.take i) ∧ (∀ x ∈ l, 1 ≤ x.f1 ∧ x.f1 ≤ 100) ∧ sumS l + left = 100 ∧ 0 ≤ left
theorem sumS_snoc : ∀ (l : List S32) (x : S32), sumS (l ++ [x]) = sumS l + x.f1
  | [], x => by simp [sumS]
  | y :: l, x => by rw [List.cons_append, sumS, sumS_snoc l x, sumS]; omega
theorem sumS_ge : ∀ (l : List S32), (∀ x ∈ l, 1 ≤ x.f1 ∧ x.f1 ≤ 100) → 0 ≤ sumS l
  | [], _ => by simp [sumS]
  | x :: l, h => by have := sumS_ge l (fun y hy => h y (by simp [hy])); have := h x (by simp); rw [sumS]; omega
theorem rd_names (i : Nat) (h : i < 6) : rdOf ByteArray.empty rnames (i : Int) = rnames[i]'h := by
  show rnames.getD i ByteArray.empty = _
  rw [List.getD_eq_getElem?_getD, List.getElem?_eq_getElem (show i < rnames.length from h)]; rfl
theorem take_names (i : Nat) (h : i < 6) : rnames.take (i + 1) = rnames.take i ++ [rnames[i]'h] := (List.take_succ_eq_append_getElem (show i < rnames.length from h))
theorem sh_j4 (k : Nat) (ns : List Int) (i : Nat) (hi : i < 6) (left w : Int) (l : List S32) (h : ShI i left l) (hw : 0 ≤ w ∧ w ≤ left) :
    ∃ l2, ShI (i + 1) (left - w) l2 ∧ damperlaw5_Shares.j4 (k + 1) ns l left rnames (i : Int) w = damperlaw5_Shares.l0 k ns l2 (left - w) rnames ((i + 1 : Nat) : Int) := by
  obtain ⟨h0, h1, h2, h3⟩ := h
  have hs := sumS_ge l h1
  have hlen : l.length ≤ 6 := by have := h0.length_le; rw [List.length_map, List.length_take] at this; omega
  rw [damperlaw5_Shares.j4, w64_small (left - w) (by omega) (by omega), w64_small ((i : Int) + 1) (by omega) (by omega), show ((i : Int) + 1) = ((i + 1 : Nat) : Int) by omega]
  by_cases c : w > 0
  · rw [if_pos c, if_pos (by omega), if_pos (by show (i : Int) < 6; omega), if_pos (by omega), rd_names i hi]
    refine ⟨_, ⟨?_, ?_, ?_, by omega⟩, rfl⟩
    · rw [List.map_append, take_names i hi]
      exact h0.append (List.Sublist.refl _)
    · intro x hx
      rcases List.mem_append.1 hx with hx | hx
      · exact h1 x hx
      · obtain rfl := List.mem_singleton.1 hx
        exact ⟨by show 1 ≤ w; omega, by show w ≤ 100; omega⟩
    · rw [sumS_snoc]; show sumS l + w + (left - w) = 100; omega
  · rw [if_neg c]
    refine ⟨l, ⟨?_, h1, by omega, by omega⟩, rfl⟩
    rw [take_names i hi]
    exact h0.trans (List.sublist_append_left _ _)
theorem sh_l0 (ns : List Int) (hns : ns.length ≤ 9223372036854775807) : ∀ (m i k : Nat) (left : Int) (l : List S32), 6 - i = m → i ≤ 6 → ShI i left l → (i = 6 → left = 0) → 5 * m + 3 ≤ k →
    ∃ l2 j, j ≤ 6 ∧ ShI j 0 l2 ∧ damperlaw5_Shares.l0 k ns l left rnames (i : Int) = some l2
  | m, i, k, left, l, hm, hi, h, h6, hk => by
    obtain ⟨k, rfl⟩ : ∃ j, k = j + 2 := ⟨k - 2, by omega⟩
    have hs := sumS_ge l h.2.1
    have hlf := h.2.2
    rw [damperlaw5_Shares.l0]
    have hlen : ((rnames.length : Nat) : Int) = 6 := rfl
    rw [hlen]
    by_cases c : i < 6
    · by_cases cl : left > 0
      · obtain ⟨k, rfl⟩ : ∃ j, k = j + 3 := ⟨k - 3, by omega⟩
        rw [if_pos (by omega), decide_eq_true cl, damperlaw5_Shares.j1, if_pos rfl]
        have main : ∀ v : Int, ∃ l2 j, j ≤ 6 ∧ ShI j 0 l2 ∧ damperlaw5_Shares.j2 (k + 3) ns l left rnames (i : Int) v = some l2 := by
          intro v
          rw [damperlaw5_Shares.j2, w64_small (left + 1) (by omega) (by omega), if_neg (by omega)]
          have hw := wi_in v (left + 1) (by omega) (by omega)
          have j3 : ∀ w : Int, 0 ≤ w ∧ w ≤ left → ∃ l2 j, j ≤ 6 ∧ ShI j 0 l2 ∧ damperlaw5_Shares.j3 (k + 2) ns l left rnames (i : Int) w = some l2 := by
            intro w hw
            rw [damperlaw5_Shares.j3, hlen, w64_small (6 - 1) (by omega) (by omega)]
            have fin : ∀ w : Int, 0 ≤ w ∧ w ≤ left → (i = 5 → w = left) → ∃ l2 j, j ≤ 6 ∧ ShI j 0 l2 ∧ damperlaw5_Shares.j4 (k + 1) ns l left rnames (i : Int) w = some l2 := by
              intro w hw h5
              obtain ⟨l2, hI, he⟩ := sh_j4 k ns i c left w l h hw
              obtain ⟨l3, j, hj, hJ, he2⟩ := sh_l0 ns hns (m - 1) (i + 1) k (left - w) l2 (by omega) (by omega) hI (by intro e; have := h5 (by omega); omega) (by omega)
              exact ⟨l3, j, hj, hJ, by rw [he, he2]⟩
            by_cases c5 : (i : Int) = 6 - 1
            · rw [if_pos c5]; exact fin left ⟨by omega, by omega⟩ (fun _ => rfl)
            · rw [if_neg c5]; exact fin w hw (fun e => absurd e (by omega))
          by_cases c0 : wi (wrap64 (Int.tdiv v 101)) 3 = 0
          · rw [if_pos c0]; exact j3 0 ⟨by omega, by omega⟩
          · rw [if_neg c0]; exact j3 _ ⟨hw.1, by omega⟩
        by_cases cn : (i : Int) < (ns.length : Int)
        · rw [if_pos cn, if_pos (by omega)]; exact main _
        · rw [if_neg cn]; exact main _
      · rw [if_pos (by omega), decide_eq_false cl, damperlaw5_Shares.j1, if_neg (by decide)]
        obtain rfl : left = 0 := by omega
        exact ⟨l, i, hi, h, rfl⟩
    · obtain rfl : i = 6 := by omega
      obtain rfl := h6 rfl
      rw [if_neg (by omega), damperlaw5_Shares.j1, if_neg (by decide)]
      exact ⟨l, 6, by omega, h, rfl⟩
/-- Shares that are drawn. -/
def GoodS (l : List S32) : Prop := (l.map (·.f0)).Sublist rnames ∧ (∀ x ∈ l, 1 ≤ x.f1 ∧ x.f1 ≤ 100) ∧ sumS l = 100
theorem shares_ok (ns : List Int) (hns : ns.length ≤ 9223372036854775807) (k : Nat) (hk : 40 ≤ k) : ∃ l, GoodS l ∧ damperlaw5_Shares.f k ns = some l := by
  unfold damperlaw5_Shares.f damperlaw5_Revs.f
  rw [Option.bind_some]
  obtain ⟨l, j, hj, hJ, he⟩ := sh_l0 ns hns 6 0 k 100 [] (by omega) (by omega) ⟨List.nil_sublist _, by simp, by simp [sumS], by omega⟩ (by omega) (by omega)
  exact ⟨l, ⟨hJ.1.trans (List.take_sublist _ _), hJ.2.1, by have := hJ.2.2.1; omega⟩, he⟩
/-- Tags that are drawn. -/
def GoodT (t : List S35) : Prop := (t.map (·.f0)).Sublist tnames ∧ ∀ x ∈ t, x.f1 ∈ rnames
def TgI (i : Nat) (t : List S35) : Prop := (t.map (·.f0)).Sublist (tnames.take i) ∧ ∀ x ∈ t, x.f1 ∈ rnames
theorem tag_name (i : Nat) (h : i < 4) : (⟨#[116]⟩ : ByteArray) ++ (strOfNums [(wrap64 (48 + (i : Int))) % 256]) = tnames[i]'h := by
  rw [w64_small (48 + (i : Int)) (by omega) (by omega), show (48 + (i : Int)) % 256 = 48 + (i : Int) by omega]
  match i, h with
  | 0, _ => rfl
  | 1, _ => rfl
  | 2, _ => rfl
  | 3, _ => rfl
theorem mk_l0 (ms : List Int) (hms : ms.length ≤ 9223372036854775807) (s : List S32) : ∀ (m i k : Nat) (t : List S35), 4 - i = m → i ≤ 4 → TgI i t → 2 * m + 3 ≤ k →
    ∃ t2 j, j ≤ 4 ∧ TgI j t2 ∧ damperlaw5_Make.l0 k ms (i : Int) s t = some (s, t2)
  | m, i, k, t, hm, hi, h, hk => by
    obtain ⟨k, rfl⟩ : ∃ j, k = j + 2 := ⟨k - 2, by omega⟩
    have hlen : t.length ≤ 4 := by have := h.1.length_le; rw [List.length_map, List.length_take] at this; omega
    rw [damperlaw5_Make.l0]
    by_cases c : i < 4
    · rw [if_pos (by omega)]
      by_cases cl : (i : Int) < (ms.length : Int)
      · rw [decide_eq_true cl, damperlaw5_Make.j1, if_pos rfl, if_pos (by omega), if_pos cl, w64_small ((i : Int) + 1) (by omega) (by omega), show ((i : Int) + 1) = ((i + 1 : Nat) : Int) by omega]
        have tk : tnames.take (i + 1) = tnames.take i ++ [tnames[i]'c] := List.take_succ_eq_append_getElem (show i < tnames.length from c)
        by_cases c2 : wi (rd ms (i : Int)) 2 = 0
        · rw [if_pos c2, Option.bind_some, Option.bind_some]
          have w := wi_in (wrap64 (Int.tdiv (rd ms (i : Int)) 2)) 6 (by decide) (by decide)
          generalize wi (wrap64 (Int.tdiv (rd ms (i : Int)) 2)) 6 = q at w ⊢
          obtain ⟨q, rfl⟩ := Int.eq_ofNat_of_zero_le w.1
          have hq : q < 6 := by omega
          have hs1 : (strOfNums [(wrap64 (48 + (i : Int))) % 256]).size = 1 := rfl
          rw [if_pos (by rw [hs1]; decide), if_pos w.1, if_pos (by show (q : Int) < 6; omega), if_pos (by omega), tag_name i c]
          have hr := rd_names q hq
          obtain ⟨t2, j, hj, hJ, he⟩ := mk_l0 ms hms s (m - 1) (i + 1) k (t ++ [⟨tnames[i]'c, rnames[q]'hq⟩]) (by omega) (by omega) ⟨by rw [List.map_append, tk]; exact h.1.append (List.Sublist.refl _), by
            intro x hx
            rcases List.mem_append.1 hx with hx | hx
            · exact h.2 x hx
            · obtain rfl := List.mem_singleton.1 hx
              exact List.getElem_mem _⟩ (by omega)
          refine ⟨t2, j, hj, hJ, ?_⟩
          rw [← he]
          congr 4
        · rw [if_neg c2]
          exact mk_l0 ms hms s (m - 1) (i + 1) k t (by omega) (by omega) ⟨by rw [tk]; exact h.1.trans (List.sublist_append_left _ _), h.2⟩ (by omega)
      · rw [decide_eq_false cl, damperlaw5_Make.j1, if_neg (by decide)]
        exact ⟨t, i, hi, h, rfl⟩
    · rw [if_neg (by omega), damperlaw5_Make.j1, if_neg (by decide)]
      exact ⟨t, i, hi, h, rfl⟩
theorem make_ok (ns ms : List Int) (hns : ns.length ≤ 9223372036854775807) (hms : ms.length ≤ 9223372036854775807) (k : Nat) (hk : 40 ≤ k) : ∃ l t, GoodS l ∧ GoodT t ∧ damperlaw5_Make.f k ns ms = some (l, t) := by
  obtain ⟨l, hl, he⟩ := shares_ok ns hns k hk
  unfold damperlaw5_Make.f
  rw [he, Option.bind_some]
  obtain ⟨t, j, hj, hJ, he2⟩ := mk_l0 ms hms l 4 0 k [] (by omega) (by omega) ⟨List.nil_sublist _, by simp⟩ (by omega)
  exact ⟨l, t, hl, ⟨hJ.1.trans (List.take_sublist _ _), hJ.2⟩, he2⟩
theorem rname_size : ∀ s ∈ rnames, s.size ≤ 6 ∧ (splitV s).2.2 = true := by
  have : rnames.all (fun s => decide (s.size ≤ 6) && (splitV s).2.2) = true := by decide
  intro s hs
  have := List.all_eq_true.1 this s hs
  simpa using this
theorem tname_size : ∀ s ∈ tnames, s.size ≤ 6 ∧ shortL s.data.toList 8 = true := by
  have : tnames.all (fun s => decide (s.size ≤ 6) && shortL s.data.toList 8) = true := by decide
  intro s hs
  have := List.all_eq_true.1 this s hs
  simpa using this
theorem GoodS.mem {l : List S32} (h : GoodS l) {x : S32} (hx : x ∈ l) : x.f0 ∈ rnames := h.1.subset (List.mem_map.2 ⟨x, hx, rfl⟩)
theorem GoodT.mem {t : List S35} (h : GoodT t) {x : S35} (hx : x ∈ t) : x.f0 ∈ tnames := h.1.subset (List.mem_map.2 ⟨x, hx, rfl⟩)
theorem small_of {l : List S32} {t : List S35} (h : GoodS l) (ht : GoodT t) : Small l t := by
  have a := h.1.length_le
  have b := ht.1.length_le
  rw [List.length_map] at a b
  have a6 : rnames.length = 6 := rfl
  have b4 : tnames.length = 4 := rfl
  refine ⟨by omega, by omega, fun x hx => ?_, fun x hx => ?_⟩
  · have := (rname_size _ (h.mem hx)).1
    have := h.2.1 x hx
    omega
  · have := (tname_size _ (ht.mem hx)).1
    have := (rname_size _ (ht.2 x hx)).1
    omega
/-- All lists that are parts of one. -/
def subs : List ByteArray → List (List ByteArray)
  | [] => [[]]
  | x :: l => subs l ++ (subs l).map (x :: ·)
theorem mem_subs {s l : List ByteArray} (h : s.Sublist l) : s ∈ subs l := by
  induction h with
  | slnil => simp [subs]
  | cons a _ ih => simp only [subs, List.mem_append]; exact .inl ih
  | cons_cons a _ ih => simp only [subs, List.mem_append]; exact .inr (List.mem_map.2 ⟨_, ih, rfl⟩)
def riseFromD : ByteArray → List ByteArray → Bool
  | _, [] => true
  | last, s :: ss => !(Op.bytesLess s.data.toList last.data.toList || s.data.toList == last.data.toList) && riseFromD s ss
def riseD : List ByteArray → Bool
  | [] => true
  | s :: ss => riseFromD s ss
theorem riseFromD_eq : ∀ (l : List ByteArray) (a : ByteArray), Rise.riseFrom a l = riseFromD a l
  | [], _ => rfl
  | x :: l, a => by rw [Rise.riseFrom, riseFromD, riseFromD_eq l x, Lib.toList_data, Lib.toList_data]
theorem riseD_eq (l : List ByteArray) : Rise.rise l = riseD l := by
  cases l with
  | nil => rfl
  | cons x l => exact riseFromD_eq l x
theorem rise_r {l : List ByteArray} (h : l.Sublist rnames) : Rise.rise l = true := by
  have : (subs rnames).all riseD = true := by decide
  rw [riseD_eq]
  exact List.all_eq_true.1 this l (mem_subs h)
theorem rise_t {l : List ByteArray} (h : l.Sublist tnames) : Rise.rise l = true := by
  have : (subs tnames).all riseD = true := by decide
  rw [riseD_eq]
  exact List.all_eq_true.1 this l (mem_subs h)
theorem goodS_of : ∀ {l : List S32}, (∀ x ∈ l, x.f0 ∈ rnames) → (∀ x ∈ l, 1 ≤ x.f1 ∧ x.f1 ≤ 100) → goodS l = true
  | [], _, _ => rfl
  | x :: l, h, h2 => by
    rw [goodS, goodS_of (fun y hy => h y (by simp [hy])) (fun y hy => h2 y (by simp [hy])), (rname_size _ (h x (by simp))).2, decide_eq_true (h2 x (by simp))]; rfl
theorem goodT_of : ∀ {l : List S35}, (∀ x ∈ l, x.f0 ∈ tnames) → (∀ x ∈ l, x.f1 ∈ rnames) → goodT l = true
  | [], _, _ => rfl
  | x :: l, h, h2 => by
    rw [goodT, goodT_of (fun y hy => h y (by simp [hy])) (fun y hy => h2 y (by simp [hy])), (tname_size _ (h x (by simp))).2, (rname_size _ (h2 x (by simp))).2]; rfl
theorem right_of {l : List S32} {t : List S35} (h : GoodS l) (ht : GoodT t) : rightB l t = true := by
  rw [rightB, goodS_of (fun x hx => h.mem hx) h.2.1, goodT_of (fun x hx => ht.mem hx) ht.2, h.2.2, rise_r h.1, rise_t ht.1]; rfl

end Go.Proofs.YtckcimahclpdfaaDoor.Plain
