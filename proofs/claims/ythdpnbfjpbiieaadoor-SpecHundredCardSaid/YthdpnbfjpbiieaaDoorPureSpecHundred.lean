/- Percents that are a hundred may be, in whatever parts; with one more or one less they are refused as the statement says. -/
import Derived.Test.YthdpnbfjpbiieaaDoorMax0
import Derived.Test.YthdpnbfjpbiieaaDoorMax3
import Derived.Test.YthdpnbfjpbiieaaDoorMax11
import Derived.Test.YthdpnbfjpbiieaaDoorMax25
import Derived.Test.YthdpnbfjpbiieaaDoorPlainG
namespace Go.Proofs.YthdpnbfjpbiieaaDoor.Pure
set_option linter.unusedVariables false
open Go.RowKit Go.Proofs.YthdpnbfjpbiieaaDoor.Ma Go.Proofs.YthdpnbfjpbiieaaDoorW.PrintWords Go.Proofs.YthdpnbfjpbiieaaDoorW.PrintLast Go.Proofs.YthdpnbfjpbiieaaDoor.Plain

/-- A list with the number of one target turned. -/
theorem psum_set : ∀ (l : List S41) (i : Nat) (h : i < l.length) (t : S41), psum (l.set i t) = psum l - l[i].f2 + t.f2
  | x :: xs, 0, _, t => by simp [psum]; omega
  | x :: xs, i + 1, h, t => by
    have h2 : i < xs.length := by simpa using h
    rw [List.set_cons_succ, psum, psum, psum_set xs i h2 t, List.getElem_cons_succ]; omega
theorem firstE_set : ∀ (l : List S41) (i : Nat) (h : i < l.length) (t : S41), (∀ t ∈ l, tgE t = 0) → firstE (l.set i t) = tgE t
  | x :: xs, 0, _, t, hz => by
    rw [List.set_cons_zero, firstE, firstE_zero (fun y hy => hz y (by simp [hy]))]
    by_cases e : tgE t = 0
    · rw [if_pos e, e]
    · rw [if_neg e]
  | x :: xs, i + 1, h, t, hz => by
    have h2 : i < xs.length := by simpa using h
    rw [List.set_cons_succ, firstE, if_pos (hz x (by simp)), firstE_set xs i h2 t (fun y hy => hz y (by simp [hy]))]
theorem tgE_turn (t : S41) (p : Int) (h : tgE t = 0) : tgE ⟨t.f0, t.f1, p⟩ = if 0 ≤ p ∧ p ≤ 100 then 0 else 2 := by
  unfold tgE tgt at h ⊢
  by_cases a : t.f0.toList ≠ [] ∧ (splitV t.f0).2.2 = false
  · rw [if_pos a] at h; cases h
  · rw [if_neg a] at h
    by_cases b : t.f1.toList ≠ [] ∧ shortL t.f1.data.toList 8 = false
    · rw [if_pos b] at h; cases h
    · rw [if_neg a, if_neg b]
theorem once_set {l : List S41} (h : Once l) (i : Nat) (p : Int) (hi : i < l.length) : Once (l.set i ⟨l[i].f0, l[i].f1, p⟩) := by
  have e : ∀ (j : Nat) (hj : j < (l.set i ⟨l[i].f0, l[i].f1, p⟩).length), (l.set i ⟨l[i].f0, l[i].f1, p⟩)[j].f1 = (l[j]'(by simpa using hj)).f1 := by
    intro j hj
    rw [List.getElem_set]
    split
    · rename_i e; subst e; rfl
    · rfl
  intro a b ha hb hab hne
  rw [e] at hne
  rw [e, e]
  exact h a b _ _ hab hne
/-- A good route with the number of one target turned by one. -/
theorem turned_ok (nm cf : ByteArray) (l : List S41) (roll : Int) (hn : shortL nm.data.toList 16 = true) (hc : shortL cf.data.toList 16 = true) (hr : 0 ≤ roll ∧ roll ≤ 60) (hl : 1 ≤ l.length ∧ l.length ≤ 6) (hg : GoodL cf l) (hp : psum l = 100) (i : Nat) (hi : i < l.length) (p : Int) (h : p = l[i].f2 + 1 ∨ p = l[i].f2 - 1) :
    routeE nm cf (l.set i ⟨l[i].f0, l[i].f1, p⟩) roll = if 0 ≤ p ∧ p ≤ 100 then 4 else 2 := by
  have htg := hg.tg hc hl.2
  unfold routeE
  rw [hn, hc, if_pos (by rfl), if_pos hr, if_pos (by simpa using hl), firstE_set l i hi _ htg, tgE_turn _ _ (htg _ (List.getElem_mem hi))]
  by_cases hb : 0 ≤ p ∧ p ≤ 100
  · have hk : ∀ t ∈ l.set i ⟨l[i].f0, l[i].f1, p⟩, -200 ≤ t.f2 ∧ t.f2 ≤ 200 := by
      intro t ht
      rcases List.mem_or_eq_of_mem_set ht with ht | rfl
      · obtain ⟨j, hj, rfl⟩ := List.getElem_of_mem ht
        have := (hg j hj).2.2
        omega
      · exact ⟨by show -200 ≤ p; omega, by show p ≤ 200; omega⟩
    rw [if_pos hb, if_pos rfl, all_sum _ [] 0 0 (by rw [List.nil_append]; exact once_set (hg.once hl.2) i p hi) hk (by omega) (by omega) (by rw [List.length_set]; omega), psum_set l i hi, if_neg, if_pos hb]
    show ¬ (0 + (psum l - l[i].f2 + p) = 100)
    omega
  · rw [if_neg hb, if_neg (by decide), if_neg hb]
theorem SpecHundred : damperlaw2_SpecHundred.Pure := by
  intro l0 a1 a2 wl _
  have hml : l0.length ≤ 9223372036854775807 := wl.1
  refine ⟨60, ?_⟩
  unfold damperlaw2_SpecHundred.f
  rw [show (60 : Nat) = 50 + 10 from rfl, known_ok, Option.bind_some, if_pos rfl]
  obtain ⟨nm, cf, l, roll, hc, hn, ⟨_, hc1, hc2⟩, hr, hl, hg, hp⟩ := gen_ok (50 + 10) (by omega) 0 l0 hml 0
  rw [hc, Option.bind_some]
  simp only
  have hz : ∀ t ∈ l, t.f0.size ≤ 140737488351232 := by
    intro t ht
    obtain ⟨j, hj, rfl⟩ := List.getElem_of_mem ht
    have := (good_size hc2 (hg j hj)).1
    omega
  have h0 : routeE nm cf l roll = 0 := by
    unfold routeE
    rw [hn.1, hc1, if_pos (by rfl), if_pos hr, if_pos hl, firstE_zero (hg.tg hc1 hl.2), if_pos rfl, all_sum _ [] 0 0 (by rw [List.nil_append]; exact hg.once hl.2) (fun t ht => by obtain ⟨j, hj, rfl⟩ := List.getElem_of_mem ht; have := (hg j hj).2.2; omega) (by omega) (by omega) (by omega), hp, if_pos (by rfl)]
  rw [if_neg (by omega), route_eq _ (by omega) _ _ _ _ hz, Option.bind_some, h0, if_pos rfl]
  have w := wi_in a1 (l.length : Int) (by omega) (by omega)
  generalize wi a1 (l.length : Int) = q at w ⊢
  obtain ⟨i, rfl⟩ := Int.eq_ofNat_of_zero_le w.1
  have hi : i < l.length := by omega
  have main : ∀ d : Int, d = 1 ∨ d = -1 → damperlaw2_SpecHundred.j0 (50 + 10) (i : Int) d nm cf l roll = some true := by
    intro d hd
    have hgi := (hg i hi).2.2
    rw [show (50 + 10 : Nat) = 59 + 1 from rfl, damperlaw2_SpecHundred.j0, if_pos w.1, if_pos w.2, Option.bind_some, rd_at l i hi, w64_small (l[i].f2 + d) (by omega) (by omega)]
    have ht := turned_ok nm cf l roll hn.1 hc1 hr hl hg hp i hi (l[i].f2 + d) (by omega)
    have hz2 : ∀ t ∈ l.set ((i : Int)).toNat ⟨l[i].f0, l[i].f1, l[i].f2 + d⟩, t.f0.size ≤ 140737488351232 := by
      intro t ht
      rcases List.mem_or_eq_of_mem_set ht with ht | rfl
      · exact hz t ht
      · exact hz l[i] (List.getElem_mem hi)
    have j1 : ∀ v, damperlaw2_SpecHundred.j1 59 v nm cf (l.set ((i : Int)).toNat ⟨l[i].f0, l[i].f1, l[i].f2 + d⟩) roll = some ((if 0 ≤ l[i].f2 + d ∧ l[i].f2 + d ≤ 100 then (4 : Int) else 2) == v) := by
      intro v
      rw [show (59 : Nat) = 58 + 1 from rfl, damperlaw2_SpecHundred.j1, route_eq _ (by omega) _ _ _ _ hz2, Option.bind_some]
      exact congrArg some (congrArg (· == v) ht)
    rw [route_eq _ (by omega) _ _ _ _ hz2, Option.bind_some, j1, j1]
    have ht2 : routeE nm cf (l.set ((i : Int)).toNat ⟨l[i].f0, l[i].f1, l[i].f2 + d⟩) roll = if 0 ≤ l[i].f2 + d ∧ l[i].f2 + d ≤ 100 then 4 else 2 := ht
    rw [ht2]
    by_cases b1 : l[i].f2 + d < 0
    · rw [if_pos b1, if_neg (by omega)]; rfl
    · rw [if_neg b1]
      by_cases b2 : l[i].f2 + d > 100
      · rw [if_pos b2, if_neg (by omega)]; rfl
      · rw [if_neg b2, if_pos (by omega)]; rfl
  cases a2
  · rw [if_neg (by decide)]; exact main (-1) (.inr rfl)
  · rw [if_pos rfl]; exact main 1 (.inl rfl)
end Go.Proofs.YthdpnbfjpbiieaaDoor.Pure
