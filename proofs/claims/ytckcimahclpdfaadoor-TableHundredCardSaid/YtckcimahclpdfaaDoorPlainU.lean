/- Plain laws of tables, further: what is right, what is the same, what a tag leads to, and that a text says which table it is. -/
import Derived.Test.YtckcimahclpdfaaDoorMax0
import Derived.Test.YtckcimahclpdfaaDoorMax6
import Derived.Test.YtckcimahclpdfaaDoorMax7
import Derived.Test.YtckcimahclpdfaaDoorMax16
import Derived.Test.YtckcimahclpdfaaDoorMax18
import Derived.Test.YtckcimahclpdfaaDoorPlainT
namespace Go.Proofs.YtckcimahclpdfaaDoor.Plain
open Go.RowKit Go.Proofs.YtckcimahclpdfaaDoor.Ma Go.Proofs.YtckcimahclpdfaaDoorW.PrintWords Go.Proofs.YtckcimahclpdfaaDoorW.PrintLast
set_option linter.unusedVariables false
set_option linter.unusedSimpArgs false

theorem wrapS_eq : ∀ (l : List S32) (s : Int) (c : Nat), goodS l = true → l.length + c ≤ 1000 → 0 ≤ s → s ≤ 100 * (c : Int) → wrapS s l = s + sumS l
  | [], s, c, _, _, _, _ => by simp [wrapS, sumS]
  | x :: xs, s, c, hg, hl, h0, h1 => by
    simp only [goodS, Bool.and_eq_true, decide_eq_true_eq] at hg
    simp only [List.length_cons] at hl
    rw [wrapS, sumS, w64_small _ (by omega) (by omega), wrapS_eq xs _ (c + 1) hg.2 (by omega) (by omega) (by omega)]
    omega
theorem rs2_eq : ∀ (l : List S35), (∀ x ∈ l, x.f1.size ≤ 140737488351232) → rs2 l = some (goodT l)
  | [], _ => rfl
  | x :: xs, h => by
    rw [rs2, tag_eq, Option.bind_some, named_eq _ (h x (by simp)), goodT]
    cases shortL x.f0.data.toList 8
    · rfl
    · rw [if_pos rfl, Option.bind_some]
      cases (splitV x.f1).2.2
      · rfl
      · rw [if_pos rfl, rs2_eq xs (fun y hy => h y (by simp [hy]))]; rfl
/-- May the table be. -/
def rightB (l : List S32) (t : List S35) : Bool := goodS l && (goodT t && (sumS l == 100 && (Rise.rise (l.map (·.f0)) && Rise.rise (t.map (·.f0)))))
theorem right_eq (l : List S32) (t : List S35) (hl : l.length ≤ 1000) (h0 : ∀ x ∈ l, x.f0.size ≤ 140737488351232) (h1 : ∀ x ∈ t, x.f1.size ≤ 140737488351232) : table_Right.f l t = some (rightB l t) := by
  unfold table_Right.f rightB
  rw [rs1_eq l 0 h0, Option.bind_some]
  by_cases c : goodS l = true
  · rw [if_pos c, c, Bool.true_and, wrapS_eq l 0 0 c (by omega) (by omega) (by omega), Int.zero_add]
    show (rs2 t).bind _ = _
    rw [rs2_eq t h1]
    rfl
  · rw [if_neg c, Bool.eq_false_iff.2 c]; rfl
theorem Small.right {l : List S32} {t : List S35} (h : Small l t) : table_Right.f l t = some (rightB l t) :=
  right_eq l t (by have := h.1; omega) (fun x hx => by have := (h.2.2.1 x hx).1; omega) (fun x hx => by have := (h.2.2.2 x hx).2; omega)
/-- Where a tag leads. -/
def byL : List S35 → ByteArray → ByteArray × Bool
  | [], _ => (⟨#[]⟩, false)
  | x :: xs, s => if x.f0.toList = s.toList then (x.f1, true) else byL xs s
theorem byTag_l0 (l : List S35) (s : ByteArray) (hl : l.length ≤ 1000) : ∀ (m i k : Nat), l.length - i = m → i ≤ l.length → m + 1 ≤ k → table_ByTag.l0 k s l (l.length : Int) (i : Int) = some (byL (l.drop i) s)
  | m, i, k, hm, hi, hk => by
    obtain ⟨k, rfl⟩ : ∃ j, k = j + 1 := ⟨k - 1, by omega⟩
    rw [table_ByTag.l0]
    by_cases h : i < l.length
    · rw [if_pos (by omega), if_pos (by omega), if_pos (by omega), rd35 l i h, List.drop_eq_getElem_cons h, byL, w64_small _ (by omega) (by omega), show ((i : Int) + 1) = ((i + 1 : Nat) : Int) by omega, byTag_l0 l s hl (m - 1) (i + 1) k (by omega) (by omega) (by omega)]
      split <;> rfl
    · rw [if_neg (by omega), List.drop_of_length_le (by omega)]; rfl
theorem byTag_eq {l : List S32} {t : List S35} (h : Small l t) (s : ByteArray) (k : Nat) (hk : 30 ≤ k) : table_ByTag.f k l t s = some (byL t s) := by
  have := byTag_l0 t s (by have := h.2.1; omega) t.length 0 k (by omega) (by omega) (by have := h.2.1; omega)
  rw [show ((0 : Nat) : Int) = 0 from rfl, List.drop_zero] at this
  exact this
theorem rbyTag_l0 (o : List S32) (l : List S35) (s : ByteArray) (hl : l.length ≤ 1000) : ∀ (m i k : Nat), l.length - i = m → i ≤ l.length → m + 1 ≤ k → damperref5_ByTag.l0 k s (i : Int) o l = some (byL (l.drop i) s)
  | m, i, k, hm, hi, hk => by
    obtain ⟨k, rfl⟩ : ∃ j, k = j + 1 := ⟨k - 1, by omega⟩
    rw [damperref5_ByTag.l0]
    by_cases h : i < l.length
    · rw [if_pos (by omega), if_pos (by omega), rd35 l i h, List.drop_eq_getElem_cons h, byL, w64_small _ (by omega) (by omega), show ((i : Int) + 1) = ((i + 1 : Nat) : Int) by omega, rbyTag_l0 o l s hl (m - 1) (i + 1) k (by omega) (by omega) (by omega)]
      split <;> rfl
    · rw [if_neg (by omega), List.drop_of_length_le (by omega)]; rfl
theorem rbyTag_eq {l : List S32} {t : List S35} (h : Small l t) (s : ByteArray) (k : Nat) (hk : 30 ≤ k) : damperref5_ByTag.f k l t s = some (byL t s) := by
  have := rbyTag_l0 l t s (by have := h.2.1; omega) t.length 0 k (by omega) (by omega) (by have := h.2.1; omega)
  rw [show ((0 : Nat) : Int) = 0 from rfl, List.drop_zero] at this
  exact this
theorem tl_iff {a b : ByteArray} : (a.toList == b.toList) = true ↔ a = b := by
  rw [beq_iff_eq]
  constructor
  · intro h; rw [Lib.toList_data, Lib.toList_data] at h; exact ba_ext h
  · rintro rfl; rfl
theorem eqP_iff {a b : S62} : eqP a b = true ↔ a = b := by
  obtain ⟨a0, a1⟩ := a
  obtain ⟨b0, b1⟩ := b
  simp only [eqP, Bool.and_eq_true, tl_iff, S62.mk.injEq]
theorem eqPs_iff : ∀ {xs ys : List S62}, eqPs xs ys = true ↔ xs = ys
  | [], [] => by simp [eqPs]
  | [], _ :: _ => by simp [eqPs]
  | _ :: _, [] => by simp [eqPs]
  | x :: xs, y :: ys => by rw [eqPs, Bool.and_eq_true, eqP_iff, eqPs_iff, List.cons.injEq]
theorem eqPs_dec (xs ys : List S62) (h : Decidable (xs = ys)) : eqPs xs ys = decide (xs = ys) := by
  rw [Bool.eq_iff_iff, eqPs_iff, decide_eq_true_iff]
/-- Are two tables the same, by their texts. -/
def sameB (l : List S32) (t : List S35) (l2 : List S32) (t2 : List S35) : Bool := eqPs (l.map shP) (l2.map shP) && eqPs (t.map tgP) (t2.map tgP)
theorem sameT_eq {l : List S32} {t : List S35} {l2 : List S32} {t2 : List S35} (h : Small l t) (h2 : Small l2 t2) (k : Nat) (hk : 2100 ≤ k) : table_Same.f k l t l2 t2 = some (sameB l t l2 t2) := by
  unfold table_Same.f
  rw [texts_eq h k hk, Option.bind_some, texts_eq h2 k hk, Option.bind_some]; rfl
theorem sameB_iff {l : List S32} {t : List S35} {l2 : List S32} {t2 : List S35} : sameB l t l2 t2 = true ↔ l.map shP = l2.map shP ∧ t.map tgP = t2.map tgP := by
  rw [sameB, Bool.and_eq_true, eqPs_iff, eqPs_iff]
theorem sameB_refl (l : List S32) (t : List S35) : sameB l t l t = true := sameB_iff.2 ⟨rfl, rfl⟩
theorem sameB_comm (l : List S32) (t : List S35) (l2 : List S32) (t2 : List S35) : sameB l t l2 t2 = sameB l2 t2 l t := by
  rw [Bool.eq_iff_iff, sameB_iff, sameB_iff]
  exact ⟨fun h => ⟨h.1.symm, h.2.symm⟩, fun h => ⟨h.1.symm, h.2.symm⟩⟩
theorem itoa_inj {x y : Int} (hx : 0 ≤ x ∧ x ≤ 999) (hy : 0 ≤ y ∧ y ≤ 999) (h : Lib.itoa x = Lib.itoa y) : x = y := by
  rw [itoa_dig x hx.1 (by omega), itoa_dig y hy.1 (by omega)] at h
  have a := (dig6 (g := x.toNat) (by omega)).2.1
  have b := (dig6 (g := y.toNat) (by omega)).2.1
  rw [h, b] at a
  omega
theorem shP_inj {x y : S32} (hx : 0 ≤ x.f1 ∧ x.f1 ≤ 999) (hy : 0 ≤ y.f1 ∧ y.f1 ≤ 999) (h : shP x = shP y) : x = y := by
  obtain ⟨x0, x1⟩ := x
  obtain ⟨y0, y1⟩ := y
  simp only [shP, S62.mk.injEq] at h
  obtain ⟨h0, h1⟩ := h
  subst h0
  have h1 := congrArg (fun b : ByteArray => b.data.toList) h1
  simp only [List.toList_toArray] at h1
  obtain rfl := itoa_inj hx hy h1
  rfl
theorem map_shP : ∀ {l l2 : List S32}, (∀ x ∈ l, 0 ≤ x.f1 ∧ x.f1 ≤ 999) → (∀ x ∈ l2, 0 ≤ x.f1 ∧ x.f1 ≤ 999) → l.map shP = l2.map shP → l = l2
  | [], [], _, _, _ => rfl
  | [], _ :: _, _, _, h => by simp at h
  | _ :: _, [], _, _, h => by simp at h
  | x :: xs, y :: ys, h1, h2, h => by
    rw [List.map_cons, List.map_cons, List.cons.injEq] at h
    rw [shP_inj (h1 x (by simp)) (h2 y (by simp)) h.1, map_shP (fun z hz => h1 z (by simp [hz])) (fun z hz => h2 z (by simp [hz])) h.2]
theorem map_tgP : ∀ {l l2 : List S35}, l.map tgP = l2.map tgP → l = l2
  | [], [], _ => rfl
  | [], _ :: _, h => by simp at h
  | _ :: _, [], h => by simp at h
  | ⟨x0, x1⟩ :: xs, ⟨y0, y1⟩ :: ys, h => by
    simp only [List.map_cons, List.cons.injEq, tgP, S62.mk.injEq] at h
    rw [h.1.1, h.1.2, map_tgP h.2]
theorem sameB_eq {l : List S32} {t : List S35} {l2 : List S32} {t2 : List S35} (h : Small l t) (h2 : Small l2 t2) : sameB l t l2 t2 = true ↔ l = l2 ∧ t = t2 := by
  rw [sameB_iff]
  exact ⟨fun e => ⟨map_shP (fun x hx => (h.2.2.1 x hx).2) (fun x hx => (h2.2.2.1 x hx).2) e.1, map_tgP e.2⟩, by rintro ⟨rfl, rfl⟩; exact ⟨rfl, rfl⟩⟩
/-- The document's: Share by Share, tag by tag. -/
theorem rshares_l0 (l l2 : List S32) (hl : l.length ≤ 1000) (he : l.length = l2.length) : ∀ (m i k : Nat), l.length - i = m → i ≤ l.length → m + 1 ≤ k → ∃ b, damperref5_Shares.l0 k l l2 (i : Int) = some b ∧ (b = true ↔ l.drop i = l2.drop i)
  | m, i, k, hm, hi, hk => by
    obtain ⟨k, rfl⟩ : ∃ j, k = j + 1 := ⟨k - 1, by omega⟩
    rw [damperref5_Shares.l0]
    by_cases h : i < l.length
    · obtain ⟨b, hb, hiff⟩ := rshares_l0 l l2 hl he (m - 1) (i + 1) k (by omega) (by omega) (by omega)
      rw [if_pos (by omega), if_pos (by omega), if_pos (by omega), rd32 l i h, rd32 l2 i (by omega), w64_small _ (by omega) (by omega), show ((i : Int) + 1) = ((i + 1 : Nat) : Int) by omega, hb]
      rw [List.drop_eq_getElem_cons h, List.drop_eq_getElem_cons (show i < l2.length by omega), List.cons.injEq]
      generalize l[i] = x
      generalize l2[i]'(by omega) = y
      obtain ⟨x0, x1⟩ := x
      obtain ⟨y0, y1⟩ := y
      simp only [S32.mk.injEq]
      by_cases c0 : (x0.toList == y0.toList) = true
      · by_cases c1 : (x1 == y1) = true
        · rw [c0, c1, if_neg (by decide)]
          exact ⟨b, rfl, by rw [hiff]; exact ⟨fun e => ⟨⟨tl_iff.1 c0, beq_iff_eq.1 c1⟩, e⟩, fun e => e.2⟩⟩
        · rw [Bool.eq_false_iff.2 c1, if_pos (by simp)]
          exact ⟨false, rfl, by simp; intro _ e; exact absurd (beq_iff_eq.2 e) c1⟩
      · rw [Bool.eq_false_iff.2 c0, if_pos (by simp)]
        exact ⟨false, rfl, by simp; intro e; exact absurd (tl_iff.2 e) c0⟩
    · rw [if_neg (by omega)]
      exact ⟨true, rfl, by rw [List.drop_of_length_le (by omega), List.drop_of_length_le (by omega)]; simp⟩
theorem rsame_l0 (o o2 : List S32) (l l2 : List S35) (hl : l.length ≤ 1000) (he : l.length = l2.length) : ∀ (m i k : Nat), l.length - i = m → i ≤ l.length → m + 1 ≤ k → ∃ b, damperref5_Same.l0 k (i : Int) o l o2 l2 = some b ∧ (b = true ↔ l.drop i = l2.drop i)
  | m, i, k, hm, hi, hk => by
    obtain ⟨k, rfl⟩ : ∃ j, k = j + 1 := ⟨k - 1, by omega⟩
    rw [damperref5_Same.l0]
    by_cases h : i < l.length
    · obtain ⟨b, hb, hiff⟩ := rsame_l0 o o2 l l2 hl he (m - 1) (i + 1) k (by omega) (by omega) (by omega)
      rw [if_pos (by omega), if_pos (by omega), if_pos (by omega), rd35 l i h, rd35 l2 i (by omega), w64_small _ (by omega) (by omega), show ((i : Int) + 1) = ((i + 1 : Nat) : Int) by omega, hb]
      rw [List.drop_eq_getElem_cons h, List.drop_eq_getElem_cons (show i < l2.length by omega), List.cons.injEq]
      generalize l[i] = x
      generalize l2[i]'(by omega) = y
      obtain ⟨x0, x1⟩ := x
      obtain ⟨y0, y1⟩ := y
      simp only [S35.mk.injEq]
      by_cases c0 : (x0.toList == y0.toList) = true
      · by_cases c1 : (x1.toList == y1.toList) = true
        · rw [c0, c1, if_neg (by decide)]
          exact ⟨b, rfl, by rw [hiff]; exact ⟨fun e => ⟨⟨tl_iff.1 c0, tl_iff.1 c1⟩, e⟩, fun e => e.2⟩⟩
        · rw [Bool.eq_false_iff.2 c1, if_pos (by simp)]
          exact ⟨false, rfl, by simp; intro _ e; exact absurd (tl_iff.2 e) c1⟩
      · rw [Bool.eq_false_iff.2 c0, if_pos (by simp)]
        exact ⟨false, rfl, by simp; intro e; exact absurd (tl_iff.2 e) c0⟩
    · rw [if_neg (by omega)]
      exact ⟨true, rfl, by rw [List.drop_of_length_le (by omega), List.drop_of_length_le (by omega)]; simp⟩
theorem rsameT_eq {l : List S32} {t : List S35} {l2 : List S32} {t2 : List S35} (h : Small l t) (h2 : Small l2 t2) (k : Nat) (hk : 100 ≤ k) : damperref5_Same.f k l t l2 t2 = some (sameB l t l2 t2) := by
  have key : ∃ b, damperref5_Same.f k l t l2 t2 = some b ∧ (b = true ↔ l = l2 ∧ t = t2) := by
    obtain ⟨k, rfl⟩ : ∃ j, k = j + 1 := ⟨k - 1, by omega⟩
    unfold damperref5_Same.f damperref5_Shares.f
    by_cases c : l.length = l2.length
    · obtain ⟨b, hb, hiff⟩ := rshares_l0 l l2 (by have := h.1; omega) c l.length 0 (k + 1) (by omega) (by omega) (by have := h.1; omega)
      rw [show ((0 : Nat) : Int) = 0 from rfl, List.drop_zero, List.drop_zero] at *
      rw [if_pos (by omega), hb, Option.bind_some]
      cases b with
      | false => exact ⟨false, by rw [if_neg (by decide), damperref5_Same.j0, if_pos rfl], by simp; intro e; exact absurd (hiff.2 e) (by decide)⟩
      | true =>
        rw [if_pos rfl, damperref5_Same.j0]
        have e := hiff.1 rfl
        by_cases c2 : t.length = t2.length
        · rw [if_neg (by simp [c2])]
          obtain ⟨b, hb, hiff⟩ := rsame_l0 l l2 t t2 (by have := h.2.1; omega) c2 t.length 0 k (by omega) (by omega) (by have := h.2.1; omega)
          rw [show ((0 : Nat) : Int) = 0 from rfl, List.drop_zero, List.drop_zero] at *
          exact ⟨b, hb, by rw [hiff]; exact ⟨fun x => ⟨e, x⟩, fun x => x.2⟩⟩
        · rw [if_pos (by simp; omega)]
          exact ⟨false, rfl, by simp; intro _ e; exact c2 (by rw [e])⟩
    · rw [if_neg (by omega), Option.bind_some, if_neg (by decide), damperref5_Same.j0, if_pos rfl]
      exact ⟨false, rfl, by simp; intro e; exact absurd (by rw [e]) c⟩
  obtain ⟨b, hb, hiff⟩ := key
  rw [hb]
  congr 1
  rw [Bool.eq_iff_iff, hiff, sameB_eq h h2]
end Go.Proofs.YtckcimahclpdfaaDoor.Plain
