/- Whether any table is right is the document's; a right one with one thing turned, too. -/
import Derived.Test.YtckcimahclpdfaaDoorMax0
import Derived.Test.YtckcimahclpdfaaDoorMax6
import Derived.Test.YtckcimahclpdfaaDoorMax9
import Derived.Test.YtckcimahclpdfaaDoorMax10
import Derived.Test.YtckcimahclpdfaaDoorMax12
import Derived.Test.YtckcimahclpdfaaDoorMax13
import Derived.Test.YtckcimahclpdfaaDoorMax14
import Derived.Test.YtckcimahclpdfaaDoorMax16
import Derived.Test.YtckcimahclpdfaaDoorPlainZ
namespace Go.Proofs.YtckcimahclpdfaaDoor.Pure
open Go.RowKit Go.Proofs.YtckcimahclpdfaaDoor.Ma Go.Proofs.YtckcimahclpdfaaDoorW.PrintWords Go.Proofs.YtckcimahclpdfaaDoorW.PrintLast Go.Proofs.YtckcimahclpdfaaDoor.Plain
set_option linter.unusedVariables false
set_option linter.unusedSimpArgs false

/-- The order of texts: one is less than another just where this one is neither less nor the same. -/
theorem bl_tri : ∀ a b : List UInt8, Op.bytesLess a b = !(Op.bytesLess b a || b == a)
  | [], [] => by simp [Op.bytesLess]
  | [], y :: b => by simp [Op.bytesLess]
  | x :: a, [] => by simp [Op.bytesLess]
  | x :: a, y :: b => by
    have ih := bl_tri a b
    by_cases h : x = y
    · subst h
      have hx : decide (x < x) = false := by simp
      have hc : ((x :: b) == (x :: a)) = (b == a) := by rw [Bool.eq_iff_iff, beq_iff_eq, beq_iff_eq]; simp
      simp only [Op.bytesLess, hx, hc, ih, beq_self_eq_true, Bool.true_and, Bool.false_or]
    · have e1 : (x == y) = false := beq_eq_false_iff_ne.mpr h
      have e2 : (y == x) = false := beq_eq_false_iff_ne.mpr (Ne.symm h)
      have hc : ((y :: b) == (x :: a)) = false := beq_eq_false_iff_ne.mpr (by intro e; exact h (List.cons.inj e).1.symm)
      simp only [Op.bytesLess, e1, e2, hc, Bool.false_and, Bool.or_false]
      have : x < y ∨ y < x := by
        rcases Nat.lt_trichotomy x.toNat y.toNat with g | g | g
        · exact .inl (UInt8.lt_iff_toNat_lt.mpr g)
        · exact absurd (UInt8.toNat_inj.mp g) h
        · exact .inr (UInt8.lt_iff_toNat_lt.mpr g)
      have nn : x < y → ¬ y < x := fun p q => by rw [UInt8.lt_iff_toNat_lt] at p q; omega
      rcases this with p | p
      · have := nn p
        simp [p, this]
      · have q : ¬ x < y := fun q => nn q p
        simp [p, q]
theorem rrev_eq (s : ByteArray) (h : s.size ≤ 200) (k : Nat) (hk : 400 ≤ k) : damperref5_revision.f k s = some (splitV s).2.2 := by
  unfold damperref5_revision.f
  have hz : s.data.toList.length = s.size := rfl
  rw [rsplit_eq s (by omega) k (by omega), Option.bind_some]
def less : Option ByteArray → ByteArray → Bool
  | none, _ => true
  | some q, x => Op.bytesLess q.toList x.toList
/-- The document's: Shares, tags, one by one. -/
def sndL : Option ByteArray → List S32 → Int → Bool
  | _, [], s => s == 100
  | p, x :: xs, s => ((splitV x.f0).2.2 && (decide (1 ≤ x.f1 ∧ x.f1 ≤ 100) && less p x.f0)) && sndL (some x.f0) xs (s + x.f1)
def tagL : Option ByteArray → List S35 → Bool
  | _, [] => true
  | p, x :: xs => (shortL x.f0.data.toList 8 && ((splitV x.f1).2.2 && less p x.f0)) && tagL (some x.f0) xs
def prevS (l : List S32) : Nat → Option ByteArray
  | 0 => none
  | j + 1 => (l[j]?).map (·.f0)
def prevT (l : List S35) : Nat → Option ByteArray
  | 0 => none
  | j + 1 => (l[j]?).map (·.f0)
set_option maxRecDepth 100000 in
theorem rsound_l0 (l : List S32) (hl : l.length ≤ 1000) (hs : ∀ x ∈ l, x.f0.size ≤ 200) : ∀ (m i k : Nat) (s : Int), l.length - i = m → i ≤ l.length → 0 ≤ s → s ≤ 100 * (i : Int) → 2 * m + 403 ≤ k →
    damperref5_Sound.l0 k l s (i : Int) = some (sndL (prevS l i) (l.drop i) s)
  | m, i, k, s, hm, hi, h0, h1, hk => by
    obtain ⟨k, rfl⟩ : ∃ j, k = j + 2 := ⟨k - 2, by omega⟩
    rw [damperref5_Sound.l0]
    by_cases h : i < l.length
    · have hx := hs _ (List.getElem_mem h)
      rw [if_pos (by omega), if_pos (by omega), rd32 l i h, rrev_eq _ hx (k + 1) (by omega), Option.bind_some, List.drop_eq_getElem_cons h, sndL]
      have jt : damperref5_Sound.j1 (k + 1) l s (i : Int) true = some false := by rw [damperref5_Sound.j1, if_pos rfl]
      have jf : 1 ≤ l[i].f1 → l[i].f1 ≤ 100 → damperref5_Sound.j1 (k + 1) l s (i : Int) false = some (sndL (some l[i].f0) (l.drop (i + 1)) (s + l[i].f1)) := by
        intro a b
        rw [damperref5_Sound.j1, if_neg (by decide), if_pos (by omega), if_pos (by omega), rd32 l i h, w64_small _ (by omega) (by omega), w64_small _ (by omega) (by omega), show ((i : Int) + 1) = ((i + 1 : Nat) : Int) by omega,
          rsound_l0 l hl hs (m - 1) (i + 1) k _ (by omega) (by omega) (by omega) (by omega) (by omega)]
        have : prevS l (i + 1) = some l[i].f0 := by simp [prevS, List.getElem?_eq_getElem h]
        rw [this]
      cases hv : (splitV l[i].f0).2.2
      · rw [if_neg (by decide), jt]; simp
      · rw [if_pos rfl]
        by_cases c1 : l[i].f1 < 1
        · rw [if_pos c1, jt, decide_eq_false (by omega)]; simp
        · rw [if_neg c1]
          by_cases c2 : l[i].f1 > 100
          · rw [if_pos c2, jt, decide_eq_false (by omega)]; simp
          · rw [if_neg c2, decide_eq_true (by omega)]
            have jf := jf (by omega) (by omega)
            rcases Nat.eq_zero_or_pos i with z | z
            · rw [if_neg (by omega), jf]
              subst z
              simp [prevS, less]
            · obtain ⟨j, rfl⟩ : ∃ j, i = j + 1 := ⟨i - 1, by omega⟩
              have hp : prevS l (j + 1) = some l[j].f0 := by simp [prevS, List.getElem?_eq_getElem (show j < l.length by omega)]
              rw [if_pos (by omega), w64_small (((j + 1 : Nat) : Int) - 1) (by omega) (by omega), show (((j + 1 : Nat) : Int) - 1) = (j : Int) by omega, if_pos (by omega), if_pos (by omega), rd32 l j (by omega), hp, less]
              cases Op.bytesLess l[j].f0.toList l[j + 1].f0.toList
              · rw [Bool.not_false, jt]; simp
              · rw [Bool.not_true, jf]; simp
    · rw [if_neg (by omega), List.drop_of_length_le (by omega), sndL]
set_option maxRecDepth 100000 in
theorem rright_l0 (l : List S32) (t : List S35) (hl : l.length ≤ 1000) (hs : ∀ x ∈ l, x.f0.size ≤ 200) (ht : t.length ≤ 1000) (hz : ∀ x ∈ t, x.f0.size ≤ 200 ∧ x.f1.size ≤ 200) : ∀ (m i k : Nat), t.length - i = m → i ≤ t.length → 2 * m + 3000 ≤ k →
    damperref5_Right.l0 k (i : Int) l t = some (tagL (prevT t i) (t.drop i) && sndL none l 0)
  | m, i, k, hm, hi, hk => by
    obtain ⟨k, rfl⟩ : ∃ j, k = j + 2 := ⟨k - 2, by omega⟩
    rw [damperref5_Right.l0]
    by_cases h : i < t.length
    · have hx := hz _ (List.getElem_mem h)
      have hd : t[i].f0.data.toList.length = t[i].f0.size := rfl
      rw [if_pos (by omega), if_pos (by omega), rd35 t i h, rtag_eq _ (by omega) (k + 1) (by omega), Option.bind_some, List.drop_eq_getElem_cons h, tagL]
      have jt : damperref5_Right.j1 (k + 1) (i : Int) true l t = some false := by rw [damperref5_Right.j1, if_pos rfl]
      have jf : damperref5_Right.j1 (k + 1) (i : Int) false l t = some (tagL (some t[i].f0) (t.drop (i + 1)) && sndL none l 0) := by
        rw [damperref5_Right.j1, if_neg (by decide), w64_small _ (by omega) (by omega), show ((i : Int) + 1) = ((i + 1 : Nat) : Int) by omega, rright_l0 l t hl hs ht hz (m - 1) (i + 1) k (by omega) (by omega) (by omega)]
        have : prevT t (i + 1) = some t[i].f0 := by simp [prevT, List.getElem?_eq_getElem h]
        rw [this]
      cases shortL t[i].f0.data.toList 8
      · rw [if_neg (by decide), jt]; simp
      · rw [if_pos rfl, rrev_eq _ hx.2 (k + 1) (by omega), Option.bind_some]
        cases (splitV t[i].f1).2.2
        · rw [if_neg (by decide), jt]; simp
        · rw [if_pos rfl]
          rcases Nat.eq_zero_or_pos i with z | z
          · rw [if_neg (by omega), jf]
            subst z
            simp [prevT, less]
          · obtain ⟨j, rfl⟩ : ∃ j, i = j + 1 := ⟨i - 1, by omega⟩
            have hp : prevT t (j + 1) = some t[j].f0 := by simp [prevT, List.getElem?_eq_getElem (show j < t.length by omega)]
            rw [if_pos (by omega), w64_small (((j + 1 : Nat) : Int) - 1) (by omega) (by omega), show (((j + 1 : Nat) : Int) - 1) = (j : Int) by omega, if_pos (by omega), if_pos (by omega), rd35 t j (by omega), hp, less]
            cases Op.bytesLess t[j].f0.toList t[j + 1].f0.toList
            · rw [Bool.not_false, jt]; simp
            · rw [Bool.not_true, jf]; simp
    · rw [if_neg (by omega), List.drop_of_length_le (by omega), tagL]
      have := rsound_l0 l hl hs l.length 0 (k + 1) 0 (by omega) (by omega) (by omega) (by omega) (by omega)
      rw [show ((0 : Nat) : Int) = 0 from rfl, List.drop_zero] at this
      unfold damperref5_Sound.f
      rw [this, Option.bind_some, Bool.true_and]; rfl
theorem sndL_some : ∀ (l : List S32) (p : ByteArray) (s : Int), sndL (some p) l s = (goodS l && ((s + sumS l == 100) && Rise.riseFrom p (l.map (·.f0))))
  | [], p, s => by simp [sndL, goodS, sumS, Rise.riseFrom]
  | x :: xs, p, s => by
    rw [sndL, sndL_some xs, goodS, sumS, List.map_cons, Rise.riseFrom, less, bl_tri p.toList x.f0.toList, show s + x.f1 + sumS xs = s + (x.f1 + sumS xs) by omega]
    generalize (splitV x.f0).2.2 = a
    generalize decide (1 ≤ x.f1 ∧ x.f1 ≤ 100) = b
    generalize (!(Op.bytesLess x.f0.toList p.toList || x.f0.toList == p.toList)) = c
    generalize goodS xs = d
    generalize (s + (x.f1 + sumS xs) == 100) = e
    generalize Rise.riseFrom x.f0 (xs.map (·.f0)) = f
    cases a <;> cases b <;> cases c <;> cases d <;> cases e <;> rfl
theorem sndL_none (l : List S32) : sndL none l 0 = (goodS l && ((sumS l == 100) && Rise.rise (l.map (·.f0)))) := by
  cases l with
  | nil => simp [sndL, goodS, sumS, Rise.rise]
  | cons x xs =>
    rw [sndL, sndL_some xs, goodS, sumS, List.map_cons, Rise.rise, less, show (0 : Int) + x.f1 + sumS xs = x.f1 + sumS xs by omega]
    generalize (splitV x.f0).2.2 = a
    generalize decide (1 ≤ x.f1 ∧ x.f1 ≤ 100) = b
    generalize goodS xs = d
    cases a <;> cases b <;> cases d <;> rfl
theorem tagL_some : ∀ (l : List S35) (p : ByteArray), tagL (some p) l = (goodT l && Rise.riseFrom p (l.map (·.f0)))
  | [], p => by simp [tagL, goodT, Rise.riseFrom]
  | x :: xs, p => by
    rw [tagL, tagL_some xs, goodT, List.map_cons, Rise.riseFrom, less, bl_tri p.toList x.f0.toList]
    generalize (splitV x.f1).2.2 = a
    generalize shortL x.f0.data.toList 8 = b
    generalize (!(Op.bytesLess x.f0.toList p.toList || x.f0.toList == p.toList)) = c
    generalize goodT xs = d
    cases a <;> cases b <;> cases c <;> cases d <;> rfl
theorem tagL_none (l : List S35) : tagL none l = (goodT l && Rise.rise (l.map (·.f0))) := by
  cases l with
  | nil => simp [tagL, goodT, Rise.rise]
  | cons x xs =>
    rw [tagL, tagL_some xs, goodT, List.map_cons, Rise.rise, less]
    generalize (splitV x.f1).2.2 = a
    generalize shortL x.f0.data.toList 8 = b
    generalize goodT xs = d
    cases a <;> cases b <;> cases d <;> rfl
/-- The document's answer for any table that is not too much. -/
theorem rright_eq (l : List S32) (t : List S35) (hl : l.length ≤ 1000) (hs : ∀ x ∈ l, x.f0.size ≤ 200) (ht : t.length ≤ 1000) (hz : ∀ x ∈ t, x.f0.size ≤ 200 ∧ x.f1.size ≤ 200) (k : Nat) (hk : 5100 ≤ k) : damperref5_Right.f k l t = some (rightB l t) := by
  unfold damperref5_Right.f
  have := rright_l0 l t hl hs ht hz t.length 0 k (by omega) (by omega) (by omega)
  rw [show ((0 : Nat) : Int) = 0 from rfl, List.drop_zero] at this
  rw [this, show prevT t 0 = none from rfl, tagL_none, sndL_none, rightB]
  generalize goodS l = a
  generalize goodT t = b
  generalize (sumS l == 100) = c
  generalize Rise.rise (l.map (·.f0)) = d
  generalize Rise.rise (t.map (·.f0)) = e
  cases a <;> cases b <;> cases c <;> cases d <;> cases e <;> rfl
theorem few_l1 (l : List S32) (t : List S35) (ht : t.length ≤ maxLen) : ∀ (m i k : Nat), t.length - i = m → i ≤ t.length → m + 1 ≤ k →
    ∃ b, damperlaw5_Few.l1 k (i : Int) l t = some b ∧ (b = true → (∀ x ∈ t.drop i, x.f0.size ≤ 60 ∧ x.f1.size ≤ 60) ∧ l.length ≤ 12 ∧ t.length ≤ 12)
  | m, i, k, hm, hi, hk => by
    obtain ⟨k, rfl⟩ : ∃ j, k = j + 1 := ⟨k - 1, by omega⟩
    unfold maxLen at ht
    rw [damperlaw5_Few.l1]
    by_cases h : i < t.length
    · rw [if_pos (by omega), if_pos (by omega), rd35 t i h]
      by_cases c1 : (t[i].f1.size : Int) > 60
      · rw [if_pos c1]; exact ⟨false, rfl, by simp⟩
      · rw [if_neg c1]
        by_cases c2 : (t[i].f0.size : Int) > 60
        · rw [if_pos c2]; exact ⟨false, rfl, by simp⟩
        · rw [if_neg c2, w64_small _ (by omega) (by omega), show ((i : Int) + 1) = ((i + 1 : Nat) : Int) by omega]
          obtain ⟨b, hb, hh⟩ := few_l1 l t ht (m - 1) (i + 1) k (by omega) (by omega) (by omega)
          refine ⟨b, hb, fun e => ⟨fun x hx => ?_, (hh e).2⟩⟩
          rw [List.drop_eq_getElem_cons h] at hx
          rcases List.mem_cons.1 hx with rfl | hx
          · exact ⟨by omega, by omega⟩
          · exact (hh e).1 x hx
    · rw [if_neg (by omega), List.drop_of_length_le (by omega)]
      by_cases c : (l.length : Int) ≤ 12
      · rw [if_pos c]; exact ⟨_, rfl, fun e => ⟨by simp, by omega, by have := of_decide_eq_true e; omega⟩⟩
      · rw [if_neg c]; exact ⟨false, rfl, by simp⟩
theorem few_l0 (l : List S32) (t : List S35) (hl : l.length ≤ maxLen) (ht : t.length ≤ maxLen) : ∀ (m i k : Nat), l.length - i = m → i ≤ l.length → m + t.length + 2 ≤ k →
    ∃ b, damperlaw5_Few.l0 k (i : Int) l t = some b ∧ (b = true → (∀ x ∈ l.drop i, x.f0.size ≤ 60) ∧ (∀ x ∈ t, x.f0.size ≤ 60 ∧ x.f1.size ≤ 60) ∧ l.length ≤ 12 ∧ t.length ≤ 12)
  | m, i, k, hm, hi, hk => by
    obtain ⟨k, rfl⟩ : ∃ j, k = j + 1 := ⟨k - 1, by omega⟩
    have hl' := hl
    unfold maxLen at hl'
    rw [damperlaw5_Few.l0]
    by_cases h : i < l.length
    · rw [if_pos (by omega), if_pos (by omega), rd32 l i h]
      by_cases c1 : (l[i].f0.size : Int) > 60
      · rw [if_pos c1]; exact ⟨false, rfl, by simp⟩
      · rw [if_neg c1, w64_small _ (by omega) (by omega), show ((i : Int) + 1) = ((i + 1 : Nat) : Int) by omega]
        obtain ⟨b, hb, hh⟩ := few_l0 l t hl ht (m - 1) (i + 1) k (by omega) (by omega) (by omega)
        refine ⟨b, hb, fun e => ⟨fun x hx => ?_, (hh e).2⟩⟩
        rw [List.drop_eq_getElem_cons h] at hx
        rcases List.mem_cons.1 hx with rfl | hx
        · omega
        · exact (hh e).1 x hx
    · rw [if_neg (by omega), List.drop_of_length_le (by omega)]
      obtain ⟨b, hb, hh⟩ := few_l1 l t ht t.length 0 k (by omega) (by omega) (by omega)
      rw [show ((0 : Nat) : Int) = 0 from rfl] at hb
      rw [List.drop_zero] at hh
      exact ⟨b, hb, fun e => ⟨by simp, hh e⟩⟩
theorem make_all5 (ns ms : List Int) (hns : ns.length ≤ 9223372036854775807) (hms : ms.length ≤ 9223372036854775807) : ∃ l t, GoodS l ∧ GoodT t ∧ ∀ k, 40 ≤ k → damperlaw5_Make.f k ns ms = some (l, t) := by
  obtain ⟨l, t, hl, ht, he⟩ := make_ok ns ms hns hms 40 (by omega)
  refine ⟨l, t, hl, ht, fun k hk => ?_⟩
  have up : ∀ n, LeO (damperlaw5_Make.f 40 ns ms) (damperlaw5_Make.f (40 + n) ns ms) := by
    intro n
    induction n with
    | zero => exact LeO.refl _
    | succ n ih => exact fun r hr => damperlaw5_Make.mono ns ms (40 + n) r (ih r hr)
  have := up (k - 40) _ he
  rwa [show 40 + (k - 40) = k by omega] at this
theorem set_sizes {l : List S32} (h : ∀ x ∈ l, x.f0.size ≤ 200) (n : Nat) (a : S32) (ha : a.f0.size ≤ 200) : ∀ x ∈ l.set n a, x.f0.size ≤ 200 := by
  intro x hx
  rcases List.mem_or_eq_of_mem_set hx with hx | rfl
  · exact h x hx
  · exact ha
set_option maxRecDepth 100000 in
theorem TableRight : damperlaw5_TableRight.Pure := by
  intro l0 l1 ns ms a3 a4 a5 ks w0 w1 w2 w3 w4 w5 w6 w7
  obtain ⟨l, t, hl, ht, hM⟩ := make_all5 ns ms (by have := w2.1; unfold maxLen at this; omega) (by have := w3.1; unfold maxLen at this; omega)
  have hS := small_of hl ht
  obtain ⟨tx, htx, htz⟩ := text_ok ks
  obtain ⟨b, hb, hbb⟩ := few_l0 l0 l1 w0.1 w1.1 l0.length 0 (l0.length + l1.length + 6000 + 2) (by omega) (by omega) (by omega)
  rw [show ((0 : Nat) : Int) = 0 from rfl] at hb
  rw [List.drop_zero] at hbb
  refine ⟨l0.length + l1.length + 6000 + 2, ?_⟩
  unfold damperlaw5_TableRight.f
  unfold damperlaw5_Few.f
  rw [known_ok _ (by omega), Option.bind_some, if_pos rfl, hb, Option.bind_some]
  cases b
  · rfl
  obtain ⟨s0, s1, n0, n1⟩ := hbb rfl
  rw [if_pos rfl, hM _ (by omega), Option.bind_some, right_eq l0 l1 (by omega) (fun x hx => by have := s0 x hx; omega) (fun x hx => by have := s1 x hx; omega), Option.bind_some,
    rright_eq l0 l1 (by omega) (fun x hx => by have := s0 x hx; omega) (by omega) (fun x hx => by have := s1 x hx; omega) _ (by omega), Option.bind_some, if_neg (by simp)]
  obtain ⟨K, hK, hKe⟩ : ∃ K, 6000 ≤ K ∧ l0.length + l1.length + 6000 = K := ⟨_, by omega, rfl⟩
  rw [hKe, hS.right, Option.bind_some, right_of hl ht, Bool.not_true]
  clear hb hKe
  have hz : ∀ x ∈ l, x.f0.size ≤ 200 := fun x hx => by have := (hS.2.2.1 x hx).1; omega
  have hy : ∀ x ∈ t, x.f0.size ≤ 200 ∧ x.f1.size ≤ 200 := fun x hx => by have := hS.2.2.2 x hx; omega
  have hl20 := hS.1
  have ht20 := hS.2.1
  have hn : 0 < l.length := by
    cases l with
    | nil => exact absurd hl.2.2 (by simp [sumS])
    | cons y l => simp
  have J : ∀ (l' : List S32) (t' : List S35), l'.length ≤ 1000 → (∀ x ∈ l', x.f0.size ≤ 200) → t'.length ≤ 1000 → (∀ x ∈ t', x.f0.size ≤ 200 ∧ x.f1.size ≤ 200) → damperlaw5_TableRight.j1 (K + 1) l' t' = some true := by
    intro l' t' a b c d
    rw [damperlaw5_TableRight.j1, right_eq l' t' a (fun x hx => by have := b x hx; omega) (fun x hx => by have := (d x hx).2; omega), Option.bind_some, rright_eq l' t' a b c d K (by omega), Option.bind_some]
    simp
  have wq := wi_in a4 (l.length : Int) (by omega) (by omega)
  have wr := wi_in a5 6 (by decide) (by decide)
  have wl := wi_in a5 (l.length : Int) (by omega) (by omega)
  show damperlaw5_TableRight.j0 (K + 2) a3 a4 a5 ks false l t = some true
  rw [damperlaw5_TableRight.j0, if_neg (by decide), if_neg (show ¬ (l.length : Int) = 0 by omega)]
  generalize wi a4 (l.length : Int) = q at wq ⊢
  obtain ⟨q, rfl⟩ := Int.eq_ofNat_of_zero_le wq.1
  have hq : q < l.length := by omega
  have r0 := rd32 l 0 hn
  rw [show ((0 : Nat) : Int) = 0 from rfl] at r0
  rw [rd32 l q hq, r0]
  have zq := hz _ (List.getElem_mem hq)
  have z0 := hz _ (List.getElem_mem hn)
  generalize wi a3 7 = v
  by_cases c : v = 0
  · rw [if_pos c, if_pos wq.1, if_pos wq.2, Option.bind_some, if_pos wr.1, if_pos (show wi a5 6 < (([0, -1, 100, 101, wrap64 (l[q].f1 + 1), a5] : List Int).length : Int) from wr.2)]
    exact J _ _ (by rw [List.length_set]; omega) (set_sizes hz _ _ zq) (by omega) hy
  rw [if_neg c]
  by_cases c : v = 1
  · rw [if_pos c, htx _ (by omega), Option.bind_some, if_pos (by omega), if_pos wq.1, if_pos wq.2]
    exact J _ _ (by rw [List.length_set]; omega) (set_sizes hz _ _ (by show ((⟨#[119, 101, 98, 45]⟩ : ByteArray) ++ tx).size ≤ 200; rw [ByteArray.size_append]; have : (⟨#[119, 101, 98, 45]⟩ : ByteArray).size = 4 := rfl; omega)) (by omega) hy
  rw [if_neg c]
  by_cases c : v = 2
  · rw [if_pos c, if_pos (by omega), if_pos wq.1, if_pos wq.2]
    exact J _ _ (by rw [List.length_set, List.length_set]; omega) (set_sizes (set_sizes hz _ _ z0) _ _ zq) (by omega) hy
  rw [if_neg c]
  by_cases c : v = 3
  · rw [if_pos c, if_pos (by omega)]
    refine J _ _ (by simp; omega) (fun x hx => ?_) (by omega) hy
    rcases List.mem_append.1 hx with hx | hx
    · exact hz x hx
    · obtain rfl := List.mem_singleton.1 hx
      show (⟨#[119, 101, 98, 45, 57]⟩ : ByteArray).size ≤ 200
      decide
  rw [if_neg c]
  by_cases c : v = 4
  · rw [if_pos c, htx _ (by omega), Option.bind_some, if_pos (by omega)]
    refine J _ _ (by omega) hz (by simp; omega) (fun x hx => ?_)
    rcases List.mem_append.1 hx with hx | hx
    · exact hy x hx
    · obtain rfl := List.mem_singleton.1 hx
      exact ⟨by show tx.size ≤ 200; omega, by show (⟨#[119, 101, 98, 45, 49]⟩ : ByteArray).size ≤ 200; decide⟩
  rw [if_neg c]
  by_cases c : v = 5
  · rw [if_pos c, htx _ (by omega), Option.bind_some, if_pos (by omega), if_pos (by omega)]
    refine J _ _ (by omega) hz (by simp; omega) (fun x hx => ?_)
    rcases List.mem_append.1 hx with hx | hx
    · exact hy x hx
    · obtain rfl := List.mem_singleton.1 hx
      refine ⟨by show (⟨#[116, 57]⟩ : ByteArray).size ≤ 200; decide, ?_⟩
      show (tx ++ (⟨#[45, 49]⟩ : ByteArray)).size ≤ 200
      rw [ByteArray.size_append]
      have : (⟨#[45, 49]⟩ : ByteArray).size = 2 := rfl
      omega
  rw [if_neg c]
  by_cases c : v = 6
  · rw [if_pos c, if_pos wl.1, if_pos (by omega)]
    exact J _ _ (by rw [List.length_take]; omega) (fun x hx => hz x (List.mem_of_mem_take hx)) (by omega) hy
  rw [if_neg c]
  exact J _ _ (by omega) hz (by omega) hy
end Go.Proofs.YtckcimahclpdfaaDoor.Pure
