/- What a kind does not have must be zero: anything laid there and it is refused. -/
import Derived.Test.YtalpoojepffldaaDoorPc
import Derived.Test.YtalpoojepffldaaDoorPf
import Derived.Test.YtalpoojepffldaaDoorZZeros
namespace Go.Proofs.YtalpoojepffldaaDoor.Pure
open Go.RowKit Go.Proofs.YtalpoojepffldaaDoor.Ma Go.Proofs.YtalpoojepffldaaDoor.Plain Go.Proofs.YtalpoojepffldaaDoorW.PrintWords Go.Proofs.YtalpoojepffldaaDoorW.PrintLast
set_option linter.unusedVariables false
set_option linter.unusedSimpArgs false

theorem and_split {a b : Bool} (h : (!(a && b)) = false) : a = true ∧ (!b) = false := by cases a <;> cases b <;> simp_all
theorem EventZeros : damperlaw3_EventZeros.Pure := by
  intro a0 a1 a2 a3 a4_0 a4_1 a4_2 a4_3 a4_4 a4_5 l5 a6 _ _ _ _ _ _ _ _ _ _ hl _
  refine ⟨100, ?_⟩
  have hw := wi_in a6 5 (by decide) (by decide)
  obtain ⟨kd, nm, tg, n, dr, c0, c1, c2, c3, c4, c5, rn, rc, ts, ro, hm, M⟩ := make_ok 100 (by decide) a0 a1 a2 a3 a4_0 a4_1 a4_2 a4_3 a4_4 a4_5 l5 (by have := hl.1; simp only [maxLen] at this; omega)
  have hn : nm.size ≤ 140737488351232 := by have := M.small.1; omega
  have ht : ∀ t ∈ ts, t.f0.size ≤ 140737488351232 := fun t h => by have := (M.tsz t h).1; omega
  have hb := M.bare
  have hok := M.ok
  have hkd := M.kind
  unfold damperlaw3_EventZeros.f
  rw [if_pos (show damperlaw3_known.f = some true from rfl), hm, Option.bind_some]
  show ezBody 100 (wi a6 5) kd nm tg n dr c0 c1 c2 c3 c4 c5 rn rc ts ro = some true
  unfold ezBody
  simp only [chk_eq 100 (by decide) _ _ _ _ _ _ _ _ _ _ _ _ _ _ _ hn ht, Option.bind_some]
  unfold extra at hb
  obtain ⟨x1, hb⟩ := and_split hb
  obtain ⟨x2, hb⟩ := and_split hb
  obtain ⟨x3, hb⟩ := and_split hb
  obtain ⟨x4, hb⟩ := and_split hb
  obtain ⟨x5, x6⟩ := and_split hb
  have x6 : ((shp kd).2.2.2.2.2.1 || bareV rn rc ts ro) = true := by cases hx : ((shp kd).2.2.2.2.2.1 || bareV rn rc ts ro)
                                                                     · rw [hx] at x6; cases x6
                                                                     · rfl
  have y : ∀ b : Bool, (zInt b (wrap64 (0 + 1))) = b := by intro b; rw [show wrap64 (0 + 1) = 1 by unfold wrap64; omega]; cases b <;> decide
  have y1 : ∀ b : Bool, (zInt b 1) = b := by intro b; cases b <;> decide
  have y2 : ∀ b : Bool, (zStr b ⟨#[116]⟩) = b := by intro b; unfold zStr isNil; rw [Lib.toList_data]; cases b <;> rfl
  have y3 : cfgZ c0 1 c2 c3 c4 c5 = false := by unfold cfgZ; cases (c0.toList == ([] : List UInt8)) <;> rfl
  have y4 : bareV rn rc ts 5 = false := by unfold bareV; cases isNil rn <;> cases isNil rc <;> rfl
  rcases (show wi a6 5 = 0 ∨ wi a6 5 = 1 ∨ wi a6 5 = 2 ∨ wi a6 5 = 3 ∨ wi a6 5 = 4 by omega) with hq | hq | hq | hq | hq <;> rw [hq]
  · rw [if_pos rfl]
    by_cases h34 : kd = 3 ∨ kd = 4
    · rw [if_pos h34, hok]; rfl
    rw [if_neg h34]
    have f4 : (shp kd).2.2.2.1 = false := by
      rcases (show kd = 1 ∨ kd = 2 ∨ kd = 5 ∨ kd = 6 ∨ kd = 7 ∨ kd = 8 ∨ kd = 9 ∨ kd = 10 ∨ kd = 11 ∨ kd = 12 ∨ kd = 13 by omega) with rfl | rfl | rfl | rfl | rfl | rfl | rfl | rfl | rfl | rfl | rfl <;> rfl
    rw [f4] at x4
    have hd : dr = 0 := by simpa [zInt] using x4
    rw [chk_extra hkd (by
        unfold extra
        subst hd
        rw [x1, x2, x3, y, f4]
        rfl)]
    rfl
  · rw [if_neg (by decide), if_pos rfl]
    by_cases h4 : kd = 4
    · rw [if_pos h4]
      rw [chk_zero hkd (by unfold extra; rw [x1, x2, y2, show (shp kd).2.2.1 = true by rw [h4]; rfl, x4, x5, x6]; rfl) M.num M.name (.inr (by decide)) (fun _ => M.draw) (fun e => by omega) (fun e => by omega)]
      rfl
    rw [if_neg h4]
    have f3 : (shp kd).2.2.1 = false := by
      rcases (show kd = 1 ∨ kd = 2 ∨ kd = 3 ∨ kd = 5 ∨ kd = 6 ∨ kd = 7 ∨ kd = 8 ∨ kd = 9 ∨ kd = 10 ∨ kd = 11 ∨ kd = 12 ∨ kd = 13 by omega) with rfl | rfl | rfl | rfl | rfl | rfl | rfl | rfl | rfl | rfl | rfl | rfl <;> rfl
    rw [chk_extra hkd (by
        unfold extra
        rw [x1, x2, y2, f3]
        rfl)]
    rfl
  · rw [if_neg (by decide), if_neg (by decide), if_pos rfl]
    by_cases h1 : kd = 1
    · rw [if_pos h1]
      have hc := M.cfg h1
      rw [chk_zero hkd (by unfold extra; rw [x1, x2, x3, x4, show (shp kd).2.2.2.2.1 = true by rw [h1]; rfl, x6]; rfl) M.num M.name M.tag (fun _ => M.draw) (fun e => cfgE_ok ⟨hc.1, by omega, by omega, hc.2.2.2⟩) (fun e => by omega)]
      rfl
    rw [if_neg h1]
    have f5 : (shp kd).2.2.2.2.1 = false := by
      rcases (show kd = 2 ∨ kd = 3 ∨ kd = 4 ∨ kd = 5 ∨ kd = 6 ∨ kd = 7 ∨ kd = 8 ∨ kd = 9 ∨ kd = 10 ∨ kd = 11 ∨ kd = 12 ∨ kd = 13 by omega) with rfl | rfl | rfl | rfl | rfl | rfl | rfl | rfl | rfl | rfl | rfl | rfl <;> rfl
    rw [chk_extra hkd (by
        unfold extra
        rw [x1, x2, x3, x4, y3, f5]
        rfl)]
    rfl
  · rw [if_neg (by decide), if_neg (by decide), if_neg (by decide), if_pos rfl]
    by_cases h2 : kd = 2
    · rw [if_pos h2]
      obtain ⟨⟨a, _⟩, ⟨b, _⟩, c, d, f, g⟩ := M.route h2
      rw [chk_zero hkd (by unfold extra; rw [x1, x2, x3, x4, x5, show (shp kd).2.2.2.2.2.1 = true by rw [h2]; rfl]; rfl) M.num M.name M.tag (fun _ => M.draw) (fun e => by omega) (fun e => good_route a b (by omega) d f g)]
      rfl
    rw [if_neg h2]
    have f6 : (shp kd).2.2.2.2.2.1 = false := by
      rcases (show kd = 1 ∨ kd = 3 ∨ kd = 4 ∨ kd = 5 ∨ kd = 6 ∨ kd = 7 ∨ kd = 8 ∨ kd = 9 ∨ kd = 10 ∨ kd = 11 ∨ kd = 12 ∨ kd = 13 by omega) with rfl | rfl | rfl | rfl | rfl | rfl | rfl | rfl | rfl | rfl | rfl | rfl <;> rfl
    rw [chk_extra hkd (by
        unfold extra
        rw [x1, x2, x3, x4, x5, y4, f6]
        rfl)]
    rfl
  · rw [if_neg (by decide), if_neg (by decide), if_neg (by decide), if_neg (by decide), if_pos rfl]
    by_cases h8 : kd ≤ 8
    · rw [if_pos h8]
      have f1 : (shp kd).1 = true ∧ numOk kd 1 = true := by
        rcases (show kd = 1 ∨ kd = 2 ∨ kd = 3 ∨ kd = 4 ∨ kd = 5 ∨ kd = 6 ∨ kd = 7 ∨ kd = 8 by omega) with rfl | rfl | rfl | rfl | rfl | rfl | rfl | rfl <;> decide
      rw [chk_zero hkd (by unfold extra; rw [y1, f1.1, x2, x3, x4, x5, x6]; rfl) (fun _ => f1.2) M.name M.tag (fun _ => M.draw) (fun e => cfgE_ok (M.cfg e)) (fun e => by
        obtain ⟨⟨a, _⟩, ⟨b, _⟩, c, d, f, g⟩ := M.route e
        exact good_route a b c d f g)]
      rfl
    rw [if_neg h8]
    have f1 : (shp kd).1 = false := by
      rcases (show kd = 9 ∨ kd = 10 ∨ kd = 11 ∨ kd = 12 ∨ kd = 13 by omega) with rfl | rfl | rfl | rfl | rfl <;> rfl
    rw [chk_extra hkd (by
        unfold extra
        rw [y1, f1]
        rfl)]
    rfl
end Go.Proofs.YtalpoojepffldaaDoor.Pure
