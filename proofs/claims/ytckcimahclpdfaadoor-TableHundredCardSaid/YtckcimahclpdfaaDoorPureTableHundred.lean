/- Of a hundred draws one behind the other each Share has as many as it weighs, none else any. -/
import Derived.Test.YtckcimahclpdfaaDoorMax0
import Derived.Test.YtckcimahclpdfaaDoorMax15
import Derived.Test.YtckcimahclpdfaaDoorPlainV
namespace Go.Proofs.YtckcimahclpdfaaDoor.Pure
open Go.RowKit Go.Proofs.YtckcimahclpdfaaDoor.Ma Go.Proofs.YtckcimahclpdfaaDoorW.PrintWords Go.Proofs.YtckcimahclpdfaaDoorW.PrintLast Go.Proofs.YtckcimahclpdfaaDoor.Plain
set_option linter.unusedVariables false
set_option linter.unusedSimpArgs false

/-- The sum of the first n. -/
def sumN (h : Nat → Int) : Nat → Int
  | 0 => 0
  | n + 1 => sumN h n + h n
theorem sumN_add (h : Nat → Int) (a : Nat) : ∀ b : Nat, sumN h (a + b) = sumN h a + sumN (fun j => h (a + j)) b
  | 0 => by simp [sumN]
  | b + 1 => by rw [← Nat.add_assoc, sumN, sumN_add h a b, sumN]; omega
theorem sumN_ext {h g : Nat → Int} : ∀ (n : Nat), (∀ i, i < n → h i = g i) → sumN h n = sumN g n
  | 0, _ => rfl
  | n + 1, e => by rw [sumN, sumN, sumN_ext n (fun i hi => e i (by omega)), e n (by omega)]
theorem sumN_one (c : Int) : ∀ n : Nat, sumN (fun _ => c) n = c * (n : Int)
  | 0 => by simp [sumN]
  | n + 1 => by
    rw [sumN, sumN_one c n]
    push_cast
    rw [Int.mul_add, Int.mul_one]
/-- A row that comes again after a hundred has one sum wherever one begins. -/
theorem turn_one (g : Int → Int) (hg : ∀ d, g (d + 100) = g d) (a : Int) : sumN (fun n => g (a + 1 + (n : Int))) 100 = sumN (fun n => g (a + (n : Int))) 100 := by
  have h1 := sumN_add (fun n => g (a + (n : Int))) 1 99
  have h2 : sumN (fun n => g (a + 1 + (n : Int))) 100 = sumN (fun n => g (a + 1 + (n : Int))) 99 + g (a + 1 + ((99 : Nat) : Int)) := rfl
  have h3 : sumN (fun j => g (a + ((1 + j : Nat) : Int))) 99 = sumN (fun n => g (a + 1 + (n : Int))) 99 := sumN_ext 99 (fun i _ => by rw [show a + ((1 + i : Nat) : Int) = a + 1 + (i : Int) by omega])
  have h4 : sumN (fun n => g (a + (n : Int))) 1 = g a := by simp [sumN]
  have h5 := hg a
  rw [show a + 1 + ((99 : Nat) : Int) = a + 100 by omega] at h2
  rw [show (1 + 99 : Nat) = 100 from rfl, h4] at h1
  rw [h2, h5, h1]
  show _ = g a + sumN (fun j => g (a + ((1 + j : Nat) : Int))) 99
  rw [h3]; omega
theorem turn_all (g : Int → Int) (hg : ∀ d, g (d + 100) = g d) (a : Int) : sumN (fun n => g (a + (n : Int))) 100 = sumN (fun n => g (n : Int)) 100 := by
  have up : ∀ n : Nat, ∀ b : Int, sumN (fun k => g (b + (n : Int) + (k : Int))) 100 = sumN (fun k => g (b + (k : Int))) 100 := by
    intro n
    induction n with
    | zero => intro b; simp
    | succ n ih =>
      intro b
      have := turn_one g hg (b + (n : Int))
      rw [show b + ((n + 1 : Nat) : Int) = b + (n : Int) + 1 by omega, this, ih b]
  rcases Int.le_total 0 a with h | h
  · obtain ⟨n, rfl⟩ := Int.eq_ofNat_of_zero_le h
    have := up n 0
    simpa using this
  · obtain ⟨n, hn⟩ := Int.eq_ofNat_of_zero_le (show 0 ≤ -a by omega)
    have := up n a
    rw [← this]
    exact sumN_ext 100 (fun i _ => by rw [show a + (n : Int) + (i : Int) = (i : Int) by omega])
/-- One where a draw leads to the name. -/
def hits (l : List S32) (s : ByteArray) (d : Int) : Int := if (pickL l (in100 d)) = s then 1 else 0
/-- What a name weighs. -/
def wt : List S32 → ByteArray → Int
  | [], _ => 0
  | x :: l, s => (if x.f0 = s then x.f1 else 0) + wt l s
theorem wt_sum : ∀ (l : List S32) (s : ByteArray) (W : Nat), (∀ x ∈ l, 1 ≤ x.f1) → sumS l = (W : Int) → sumN (fun j => if pickL l (j : Int) = s then 1 else 0) W = wt l s
  | [], s, W, _, hW => by
    obtain rfl : W = 0 := by simp [sumS] at hW; omega
    rfl
  | x :: l, s, W, h, hW => by
    have hx := h x (by simp)
    rw [sumS] at hW
    have hs : 0 ≤ sumS l := by
      have : ∀ l : List S32, (∀ x ∈ l, 1 ≤ x.f1) → 0 ≤ sumS l := by
        intro l
        induction l with
        | nil => intro _; simp [sumS]
        | cons y l ih => intro hy; have := ih (fun z hz => hy z (by simp [hz])); have := hy y (by simp); rw [sumS]; omega
      exact this l (fun y hy => h y (by simp [hy]))
    obtain ⟨a, ha⟩ := Int.eq_ofNat_of_zero_le (show 0 ≤ x.f1 by omega)
    obtain ⟨b, hb⟩ := Int.eq_ofNat_of_zero_le hs
    obtain rfl : W = a + b := by omega
    rw [sumN_add, wt, ← wt_sum l s b (fun y hy => h y (by simp [hy])) hb]
    have e1 : sumN (fun j => if pickL (x :: l) (j : Int) = s then (1 : Int) else 0) a = if x.f0 = s then x.f1 else 0 := by
      rw [sumN_ext (g := fun _ => if x.f0 = s then (1 : Int) else 0) a (fun i hi => by
        have h_ : pickL (x :: l) (i : Int) = x.f0 := by rw [pickL, if_pos (by omega)]
        show (if pickL (x :: l) (i : Int) = s then (1 : Int) else 0) = _
        rw [h_]), sumN_one]
      split <;> omega
    have e2 : sumN (fun j => if pickL (x :: l) ((a + j : Nat) : Int) = s then (1 : Int) else 0) b = sumN (fun j => if pickL l (j : Int) = s then 1 else 0) b :=
      sumN_ext b (fun i hi => by
        have h_ : pickL (x :: l) ((a + i : Nat) : Int) = pickL l (i : Int) := by rw [pickL, if_neg (by omega), show ((a + i : Nat) : Int) - x.f1 = (i : Int) by omega]
        show (if pickL (x :: l) ((a + i : Nat) : Int) = s then (1 : Int) else 0) = _
        rw [h_])
    rw [e1, e2]
theorem wt_none : ∀ (l : List S32) (s : ByteArray), s ∉ l.map (·.f0) → wt l s = 0
  | [], _, _ => rfl
  | x :: l, s, h => by
    rw [List.map_cons, List.mem_cons, not_or] at h
    rw [wt, if_neg (fun e => h.1 e.symm), wt_none l s h.2]; rfl
theorem wt_at : ∀ (l : List S32), (l.map (·.f0)).Nodup → ∀ (i : Nat) (h : i < l.length), wt l l[i].f0 = l[i].f1
  | x :: l, hn, 0, _ => by
    rw [List.map_cons, List.nodup_cons] at hn
    rw [List.getElem_cons_zero, wt, if_pos rfl, wt_none l _ hn.1]; omega
  | x :: l, hn, i + 1, h => by
    have h2 : i < l.length := by simpa using h
    rw [List.map_cons, List.nodup_cons] at hn
    rw [List.getElem_cons_succ, wt, if_neg, wt_at l hn.2 i h2]
    · omega
    · intro e
      exact hn.1 (by rw [e]; exact List.mem_map.2 ⟨_, List.getElem_mem h2, rfl⟩)
theorem in100_far (d : Int) (q : Int) : in100 (d + 100 * q) = in100 d := by
  have a := in100_in d
  have b := in100_in (d + 100 * q)
  obtain ⟨a0, a1, p, hp⟩ := a
  obtain ⟨b0, b1, s, hs⟩ := b
  omega
theorem in100_self (j : Nat) (h : j < 100) : in100 (j : Int) = (j : Int) := by
  obtain ⟨a0, a1, p, hp⟩ := in100_in (j : Int)
  omega
theorem nodup_r {l : List S32} (h : GoodS l) : (l.map (·.f0)).Nodup := by
  have : rnames.Nodup := by decide
  exact h.1.nodup this
/-- A hundred draws: as many as it weighs. -/
theorem hundred {l : List S32} (h : GoodS l) (i : Nat) (hi : i < l.length) (a : Int) : sumN (fun n => hits l l[i].f0 (a + (n : Int))) 100 = l[i].f1 := by
  rw [turn_all (hits l l[i].f0) (fun d => by unfold hits; rw [show d + 100 = d + 100 * 1 by omega, in100_far]) a]
  rw [sumN_ext (g := fun j => if pickL l (j : Int) = l[i].f0 then 1 else 0) 100 (fun j hj => by unfold hits; rw [in100_self j hj]), wt_sum l _ 100 (fun x hx => (h.2.1 x hx).1) h.2.2, wt_at l (nodup_r h) i hi]
theorem sumN_bd (l : List S32) (s : ByteArray) (a : Int) : ∀ n : Nat, 0 ≤ sumN (fun n => hits l s (a + (n : Int))) n ∧ sumN (fun n => hits l s (a + (n : Int))) n ≤ (n : Int)
  | 0 => by simp [sumN]
  | n + 1 => by
    have := sumN_bd l s a n
    have h2 : 0 ≤ hits l s (a + (n : Int)) ∧ hits l s (a + (n : Int)) ≤ 1 := by unfold hits; split <;> omega
    rw [sumN]
    omega
theorem rd_set (c : List Int) (i j : Nat) (v : Int) (hi : i < c.length) : rd (c.set i v) (j : Int) = if i = j then v else rd c (j : Int) := by
  show (c.set i v).getD j 0 = if i = j then v else c.getD j 0
  rw [List.getD_eq_getElem?_getD, List.getD_eq_getElem?_getD, List.getElem?_set]
  by_cases e : i = j
  · subst e; rw [if_pos rfl, if_pos rfl, if_pos hi]; rfl
  · rw [if_neg e, if_neg e]
set_option maxRecDepth 100000 in
/-- One draw's walk over the Shares. -/
theorem hundred_l1 {l : List S32} {t : List S35} (hS : Small l t) (a d : Int) (r : ByteArray) : ∀ (m i k : Nat) (c : List Int) (b : Bool), l.length - i = m → i ≤ l.length → c.length = l.length → (∀ j : Nat, j < l.length → 0 ≤ rd c (j : Int) ∧ rd c (j : Int) ≤ 1000 + (i : Int)) → m + 1 ≤ k →
    ∃ c2 : List Int, c2.length = l.length ∧ (∀ j (hj : j < l.length), rd c2 (j : Int) = rd c (j : Int) + (if i ≤ j ∧ r = l[j].f0 then 1 else 0)) ∧
      damperlaw5_TableHundred.l1 k a c d r b (i : Int) l t = if (b || (l.drop i).any (fun x => x.f0.toList == r.toList)) = true then damperlaw5_TableHundred.l0 (k - m - 1) a c2 (wrap64 (d + 1)) l t else some false
  | m, i, k, c, b, hm, hi, hc, hb, hk => by
    obtain ⟨k, rfl⟩ : ∃ j, k = j + 1 := ⟨k - 1, by omega⟩
    have hl := hS.1
    rw [damperlaw5_TableHundred.l1]
    by_cases h : i < l.length
    · rw [if_pos (by omega), if_pos (by omega), rd32 l i h, w64_small ((i : Int) + 1) (by omega) (by omega), show ((i : Int) + 1) = ((i + 1 : Nat) : Int) by omega, List.drop_eq_getElem_cons h, List.any_cons]
      have hbi := hb i h
      have ek : k + 1 - m - 1 = k - (m - 1) - 1 := by omega
      rw [ek]
      by_cases e : l[i].f0.toList = r.toList
      · have er : r = l[i].f0 := by rw [Lib.toList_data, Lib.toList_data] at e; exact (ba_ext e).symm
        rw [if_pos e, if_pos (by omega), w64_small (rd c (i : Int) + 1) (by omega) (by omega)]
        obtain ⟨c2, h1, h2, h3⟩ := hundred_l1 hS a d r (m - 1) (i + 1) k (c.set i (rd c (i : Int) + 1)) true (by omega) (by omega) (by simpa using hc) (by
          intro j hj
          have := hb j hj
          rw [rd_set c i j _ (by omega)]
          split <;> omega) (by omega)
        refine ⟨c2, h1, fun j hj => ?_, ?_⟩
        · rw [h2 j hj, rd_set c i j _ (by omega)]
          by_cases ej : i = j
          · subst ej
            rw [if_pos rfl, if_neg (by omega), if_pos ⟨Nat.le_refl _, er⟩]; omega
          · rw [if_neg ej]
            by_cases c3 : i + 1 ≤ j ∧ r = l[j].f0
            · rw [if_pos c3, if_pos ⟨by omega, c3.2⟩]
            · rw [if_neg c3, if_neg (fun hh => c3 ⟨by omega, hh.2⟩)]
        · rw [show ((i : Int)).toNat = i from rfl, h3, Bool.true_or, if_pos rfl, e, beq_self_eq_true, Bool.true_or, Bool.or_true, if_pos rfl]
      · rw [if_neg e, beq_eq_false_iff_ne.2 e, Bool.false_or]
        obtain ⟨c2, h1, h2, h3⟩ := hundred_l1 hS a d r (m - 1) (i + 1) k c b (by omega) (by omega) hc (fun j hj => by have := hb j hj; omega) (by omega)
        refine ⟨c2, h1, fun j hj => ?_, h3⟩
        rw [h2 j hj]
        by_cases ej : i = j
        · subst ej
          rw [if_neg (by omega), if_neg (fun hh => e (by rw [hh.2]))]
        · by_cases c3 : i + 1 ≤ j ∧ r = l[j].f0
          · rw [if_pos c3, if_pos ⟨by omega, c3.2⟩]
          · rw [if_neg c3, if_neg (fun hh => c3 ⟨by omega, hh.2⟩)]
    · rw [if_neg (by omega), List.drop_of_length_le (show l.length ≤ i by omega), List.any_nil, Bool.or_false, show k + 1 - m - 1 = k by omega]
      exact ⟨c, hc, fun j hj => by rw [if_neg (by omega)]; omega, rfl⟩
theorem hundred_l2 {l : List S32} {t : List S35} (hl : l.length ≤ 20) (c : List Int) (hc : c.length = l.length) (he : ∀ j (hj : j < l.length), rd c (j : Int) = l[j].f1) : ∀ (m i k : Nat), l.length - i = m → i ≤ l.length → m + 1 ≤ k → damperlaw5_TableHundred.l2 k c (i : Int) l t = some true
  | m, i, k, hm, hi, hk => by
    obtain ⟨k, rfl⟩ : ∃ j, k = j + 1 := ⟨k - 1, by omega⟩
    rw [damperlaw5_TableHundred.l2]
    by_cases h : i < l.length
    · rw [if_pos (by omega), if_pos (by omega), if_pos (by omega), rd32 l i h, if_pos (he i h), w64_small ((i : Int) + 1) (by omega) (by omega), show ((i : Int) + 1) = ((i + 1 : Nat) : Int) by omega]
      exact hundred_l2 hl c hc he (m - 1) (i + 1) k (by omega) (by omega) (by omega)
    · rw [if_neg (by omega)]
theorem pick_mem' : ∀ (l : List S32) (d : Int), (∀ x ∈ l, 1 ≤ x.f1 ∧ x.f1 ≤ 100) → 0 ≤ d → d < sumS l → l.any (fun x => x.f0.toList == (pickL l d).toList) = true
  | [], d, _, h0, h1 => by simp [sumS] at h1; omega
  | x :: l, d, h, h0, h1 => by
    rw [pickL, List.any_cons]
    by_cases c : d < x.f1
    · rw [if_pos c, beq_self_eq_true, Bool.true_or]
    · rw [if_neg c, pick_mem' l (d - x.f1) (fun y hy => h y (by simp [hy])) (by omega) (by rw [sumS] at h1; omega), Bool.or_true]
set_option maxRecDepth 100000 in
theorem hundred_l0 {l : List S32} {t : List S35} (hG : GoodS l) (hS : Small l t) (a : Int) (ha : -1099511627776 ≤ a ∧ a ≤ 1099511627776) : ∀ (m n k : Nat) (c : List Int), 100 - n = m → n ≤ 100 → c.length = l.length → (∀ j (hj : j < l.length), rd c (j : Int) = sumN (fun e => hits l l[j].f0 (a + (e : Int))) n) → 30 * m + 60 ≤ k →
    damperlaw5_TableHundred.l0 k a c (a + (n : Int)) l t = some true
  | m, n, k, c, hm, hn, hc, he, hk => by
    obtain ⟨k, rfl⟩ : ∃ j, k = j + 1 := ⟨k - 1, by omega⟩
    have hl := hS.1
    rw [damperlaw5_TableHundred.l0, w64_small (a + 100) (by omega) (by omega)]
    by_cases h : n < 100
    · have hi := in100_in (a + (n : Int))
      have hmem := pick_mem' l (in100 (a + (n : Int))) hG.2.1 hi.1 (by have := hG.2.2; omega)
      rw [if_pos (by omega), pick_eq hS _ k (by omega), Option.bind_some]
      obtain ⟨c2, h1, h2, h3⟩ := hundred_l1 hS a (a + (n : Int)) (pickL l (in100 (a + (n : Int)))) l.length 0 k c false (by omega) (by omega) hc (fun j hj => by have := sumN_bd l l[j].f0 a n; rw [he j hj]; omega) (by omega)
      rw [show ((0 : Nat) : Int) = 0 from rfl, List.drop_zero, Bool.false_or, hmem, if_pos rfl, w64_small (a + (n : Int) + 1) (by omega) (by omega), show a + (n : Int) + 1 = a + ((n + 1 : Nat) : Int) by omega] at h3
      rw [h3]
      refine hundred_l0 hG hS a ha (m - 1) (n + 1) _ c2 (by omega) (by omega) h1 (fun j hj => ?_) (by omega)
      rw [h2 j hj, he j hj, sumN]
      congr 1
      unfold hits
      by_cases c3 : pickL l (in100 (a + (n : Int))) = l[j].f0
      · rw [if_pos c3, if_pos ⟨Nat.zero_le _, c3⟩]
      · rw [if_neg c3, if_neg (fun hh => c3 hh.2)]
    · obtain rfl : n = 100 := by omega
      rw [if_neg (by omega)]
      exact hundred_l2 hl c hc (fun j hj => by rw [he j hj, hundred hG j hj a]) l.length 0 k (by omega) (by omega) (by omega)
set_option maxRecDepth 100000 in
theorem TableHundred : damperlaw5_TableHundred.Pure := by
  intro l0 a1 w0 _
  have hm0 : l0.length ≤ 9223372036854775807 := w0.1
  refine ⟨5000, ?_⟩
  unfold damperlaw5_TableHundred.f
  rw [known_ok 5000 (by omega), Option.bind_some, if_pos rfl]
  obtain ⟨l, t, hl, ht, he⟩ := make_ok l0 [] hm0 (by simp) 5000 (by omega)
  have hS := small_of hl ht
  have hlen := hS.1
  rw [he, Option.bind_some]
  simp only
  have w := wi_in a1 1099511627776 (by decide) (by decide)
  generalize wi a1 1099511627776 = d at w ⊢
  rw [if_pos (by omega), if_pos (by omega), w64_small (d - 549755813888) (by omega) (by omega)]
  have := hundred_l0 hl hS (d - 549755813888) (by omega) 100 0 5000 (List.replicate ((l.length : Int)).toNat 0) (by omega) (by omega) (by simp) (fun j hj => by
    show (List.replicate ((l.length : Int)).toNat (0 : Int)).getD j 0 = 0
    rw [List.getD_eq_getElem?_getD, List.getElem?_replicate]
    split <;> rfl) (by omega)
  rw [show d - 549755813888 + ((0 : Nat) : Int) = d - 549755813888 by omega] at this
  exact this
end Go.Proofs.YtckcimahclpdfaaDoor.Pure
