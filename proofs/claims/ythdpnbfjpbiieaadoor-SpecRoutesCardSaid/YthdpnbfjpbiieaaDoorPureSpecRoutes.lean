/- Any route is allowed, or refused, as the document says; a drawn one may be, and with one thing turned both sides still agree. -/
import Derived.Test.YthdpnbfjpbiieaaDoorMax0
import Derived.Test.YthdpnbfjpbiieaaDoorMax13
import Derived.Test.YthdpnbfjpbiieaaDoorMax19
import Derived.Test.YthdpnbfjpbiieaaDoorMax23
import Derived.Test.YthdpnbfjpbiieaaDoorMax24
import Derived.Test.YthdpnbfjpbiieaaDoorPlainG
namespace Go.Proofs.YthdpnbfjpbiieaaDoor.Pure
open Go.RowKit Go.Proofs.YthdpnbfjpbiieaaDoor.Ma Go.Proofs.YthdpnbfjpbiieaaDoorW.PrintWords Go.Proofs.YthdpnbfjpbiieaaDoorW.PrintLast Go.Proofs.YthdpnbfjpbiieaaDoor.Plain
set_option linter.unusedVariables false

/-- Texts that the reach of a call holds. -/
def Fits (l : List S41) : Prop := ∀ t ∈ l, t.f0.size ≤ 140737488351232 ∧ t.f1.size ≤ 140737488351232
theorem both (k : Nat) (hk : 140737488351400 ≤ k) (n c : ByteArray) (l : List S41) (r : Int) (hn : n.size ≤ 140737488351232) (hc : c.size ≤ 140737488351232) (hl : Fits l) : spec_Route.f k n c l r = some (routeE n c l r) ∧ damperref2_Route.f k n c l r = some (routeE n c l r) := by
  have e : ∀ s : ByteArray, s.data.toList.length = s.size := fun s => rfl
  refine ⟨route_eq k (by omega) n c l r (fun t h => (hl t h).1), rroute_eq k 140737488351262 (by omega) n c l r ⟨by omega, by rw [e]; omega⟩ ⟨by omega, by rw [e]; omega⟩ (fun t h => ?_)⟩
  have := hl t h
  exact ⟨by omega, by omega, by rw [e]; omega, by rw [e]; omega⟩
theorem routes_j1 (k : Nat) (hk : 140737488351400 ≤ k) (n c : ByteArray) (l : List S41) (r : Int) (hn : n.size ≤ 140737488351232) (hc : c.size ≤ 140737488351232) (hl : Fits l) : damperlaw2_SpecRoutes.j1 (k + 1) n c l r = some true := by
  have h := both k hk n c l r hn hc hl
  rw [damperlaw2_SpecRoutes.j1, h.1, Option.bind_some, h.2, Option.bind_some, beq_self_eq_true]
theorem fits_set {l : List S41} (h : Fits l) (i : Nat) (t : S41) (ht : t.f0.size ≤ 140737488351232 ∧ t.f1.size ≤ 140737488351232) : Fits (l.set i t) := by
  intro x hx
  rcases List.mem_or_eq_of_mem_set hx with hx | rfl
  · exact h x hx
  · exact ht
theorem SpecRoutes : damperlaw2_SpecRoutes.Pure := by
  intro a0_0 a0_1 l0_2 a0_3 a1 l2 a3 a4 a5 a6 l7 _ _ w02 _ _ w2 _ _ _ _ w7
  have hm2 : l2.length ≤ 9223372036854775807 := w2.1
  have hraw : Fits l0_2 := fun t h => ⟨(w02.2 t h).1, (w02.2 t h).2.1⟩
  obtain ⟨K, hK⟩ : ∃ K : Nat, 140737488351400 ≤ K := ⟨_, Nat.le_refl _⟩
  refine ⟨K + 10, ?_⟩
  unfold damperlaw2_SpecRoutes.f
  rw [known_ok, Option.bind_some, if_pos rfl]
  obtain ⟨nm, cf, l, roll, hc, hn, ⟨_, hc1, hc2⟩, hr, hl, hg, hp⟩ := gen_ok (K + 10) (by omega) a1 l2 hm2 a3
  unfold damperlaw2_Few.f
  by_cases f1 : (l0_2.length : Int) ≤ 12
  case neg => rw [if_neg f1]; rfl
  rw [if_pos f1]
  by_cases f2 : (a0_0.size : Int) ≤ 60
  case neg => rw [if_neg f2]; rfl
  rw [if_pos f2]
  by_cases f3 : (a0_1.size : Int) ≤ 60
  case neg => rw [decide_eq_false f3]; rfl
  rw [decide_eq_true f3, Option.bind_some, if_pos rfl, hc, Option.bind_some]
  have hb := both (K + 10) (by omega) a0_0 a0_1 l0_2 a0_3 (by omega) (by omega) hraw
  rw [hb.1, Option.bind_some, hb.2, Option.bind_some, if_pos rfl]
  simp only
  have hz : Fits l := by
    intro t ht
    obtain ⟨j, hj, rfl⟩ := List.getElem_of_mem ht
    have := good_size hc2 (hg j hj)
    omega
  have h0 : routeE nm cf l roll = 0 := by
    unfold routeE
    rw [hn.1, hc1, if_pos (by rfl), if_pos hr, if_pos hl, firstE_zero (hg.tg hc1 hl.2), if_pos rfl, all_sum _ [] 0 0 (by rw [List.nil_append]; exact hg.once hl.2) (fun t ht => by obtain ⟨j, hj, rfl⟩ := List.getElem_of_mem ht; have := (hg j hj).2.2; omega) (by omega) (by omega) (by omega), hp, if_pos (by rfl)]
  have hn5 := hn.2
  rw [(both (K + 10) (by omega) nm cf l roll (by omega) (by omega) hz).1, Option.bind_some, h0, show ((0 : Int) != 0) = false from rfl, show K + 10 = (K + 9) + 1 from rfl, damperlaw2_SpecRoutes.j0, if_neg (by decide), if_neg (by omega)]
  obtain ⟨tx, htx, hts⟩ := text_ok l7
  have htx := htx (K + 9) (by omega)
  have J : ∀ (n c : ByteArray) (ll : List S41) (r : Int), n.size ≤ 140737488351232 → c.size ≤ 140737488351232 → Fits ll → damperlaw2_SpecRoutes.j1 (K + 9) n c ll r = some true := fun n c ll r h1 h2 h3 => routes_j1 (K + 8) (by omega) n c ll r h1 h2 h3
  have w := wi_in a5 (l.length : Int) (by omega) (by omega)
  generalize wi a5 (l.length : Int) = q at w ⊢
  obtain ⟨i, rfl⟩ := Int.eq_ofNat_of_zero_le w.1
  have hi : i < l.length := by omega
  have hzi := hz l[i] (List.getElem_mem hi)
  have hz0 := hz (l[0]'(by omega)) (List.getElem_mem (by omega))
  have wn4 := wi_in a6 4 (by decide) (by decide)
  have wn7 := wi_in a6 7 (by decide) (by decide)
  have wnl := wi_in a6 (l.length : Int) (by omega) (by omega)
  simp only [htx, Option.bind_some]
  generalize wi a4 9 = v
  generalize wi a6 4 = q4 at wn4 ⊢
  generalize wi a6 7 = q7 at wn7 ⊢
  generalize wi a6 (l.length : Int) = ql at wnl ⊢
  by_cases c0 : v = 0
  · rw [if_pos c0]; exact J _ _ _ _ (by omega) (by omega) hz
  rw [if_neg c0]
  by_cases c0 : v = 1
  · rw [if_pos c0]; exact J _ _ _ _ (by omega) (by omega) hz
  rw [if_neg c0]
  by_cases c0 : v = 2
  · rw [if_pos c0, if_pos wn4.1, if_pos (by simp; omega)]; exact J _ _ _ _ (by omega) (by omega) hz
  rw [if_neg c0]
  by_cases c0 : v = 3
  · rw [if_pos c0, if_pos (by simp; omega), if_pos wn7.1, if_pos (by simp; omega)]
    refine J _ _ _ _ (by omega) (by omega) ?_
    intro t ht
    rw [List.nil_append] at ht
    rcases List.mem_append.1 ht with ht | ht
    · exact hz t ht
    · obtain rfl := (List.mem_replicate.1 ht).2
      exact ⟨Nat.zero_le _, Nat.zero_le _⟩
  rw [if_neg c0]
  by_cases c0 : v = 4
  · rw [if_pos c0, if_pos (by omega), if_pos w.1, if_pos w.2, rd_at l i hi]
    refine J _ _ _ _ (by omega) (by omega) (fits_set hz _ _ ⟨?_, hzi.2⟩)
    show ((⟨#[119, 101, 98, 45]⟩ : ByteArray) ++ tx).size ≤ _
    rw [ByteArray.size_append]
    have : (⟨#[119, 101, 98, 45]⟩ : ByteArray).size = 4 := rfl
    omega
  rw [if_neg c0]
  by_cases c0 : v = 5
  · rw [if_pos c0, if_pos w.1, if_pos w.2, rd_at l i hi]
    exact J _ _ _ _ (by omega) (by omega) (fits_set hz _ _ ⟨hzi.1, by show tx.size ≤ _; omega⟩)
  rw [if_neg c0]
  by_cases c0 : v = 6
  · rw [if_pos c0, if_pos w.1, if_pos w.2, rd_at l i hi, if_pos wn4.1, if_pos (by simp; omega)]
    exact J _ _ _ _ (by omega) (by omega) (fits_set hz _ _ hzi)
  rw [if_neg c0]
  by_cases c0 : v = 7
  · rw [if_pos c0, if_pos (by omega), if_pos w.1, if_pos w.2, rd_at l i hi, show (0 : Int) = ((0 : Nat) : Int) from rfl, rd_at l 0 (by omega)]
    exact J _ _ _ _ (by omega) (by omega) (fits_set hz _ _ ⟨hzi.1, hz0.2⟩)
  rw [if_neg c0]
  by_cases c0 : v = 8
  · rw [if_pos c0, if_pos wnl.1, if_pos (by omega)]
    exact J _ _ _ _ (by omega) (by omega) (fun t ht => hz t (List.mem_of_mem_take ht))
  rw [if_neg c0]
  exact J _ _ _ _ (by omega) (by omega) hz
end Go.Proofs.YthdpnbfjpbiieaaDoor.Pure
