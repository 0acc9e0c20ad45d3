/- Without samples as many are asked for as the least, or one, where something is there, or was asked for and has not been idle long enough.
   Conditions: none beyond the row's own. -/
import Derived.Test.YtlikdmeickbigaaMax23
import Derived.Test.YtlikdmeickbigaaPlain
namespace Go.Proofs.Ytlikdmeickbigaa.Pure
open Go.RowKit Go.Proofs.Ytlikdmeickbigaa.Ma Go.Proofs.Ytlikdmeickbigaa.Plain Go.Proofs.YtlikdmeickbigaaW.PrintWords Go.Proofs.YtlikdmeickbigaaW.PrintLast Go.Proofs.YtlikdmeickbigaaW.PrintMore
set_option linter.unusedVariables false

theorem none_j1 (k : Nat) (r n : Int) (f : Bool) (nm : ByteArray) (i c lo hi g w : Int) (hr : 0 ≤ r) (hr2 : r ≤ 1000000) (h : w = mn hi (mx (mx (if f = true then 1 else n) (r / 2)) lo)) :
    damperlaw10_ScaleNone.j1 (k + 1) r n f nm i c lo hi g w 0 = some true := by
  simp only [damperlaw10_ScaleNone.j1]
  rw [half hr hr2]
  split
  · rename_i hf
    rw [if_pos hf] at h
    rw [← h]
    simp
  · rename_i hf
    rw [if_neg hf] at h
    rw [← h]
    simp

theorem ScaleNone : damperlaw10_ScaleNone.Pure := by
  intro nm i c lo hi g want busy idle ready _ _ _ _ _ _ _ _ _ _
  obtain ⟨nm', i', c', lo', hi', g', hC, F⟩ := config_some nm i c lo hi g
  have := F.c1; have := F.c8; have := F.lo0; have := F.lohi; have := F.hi1; have := F.hi10; have := F.g0; have := F.g30
  have h1 := mod_range want 11 (by omega)
  have h2 := mod_range busy 3 (by omega)
  have h3 := mod_range idle 40 (by omega)
  have h4 := mod_range ready 12 (by omega)
  refine ⟨1 + 3, ?_⟩
  unfold damperlaw10_ScaleNone.f
  rw [known_some 1]
  simp only [Option.bind_some, ↓reduceIte]
  rw [hC]
  simp only [Option.bind_some]
  rw [within10 want 11 (by omega) (by omega), within10 busy 3 (by omega) (by omega), within10 idle 40 (by omega) (by omega), within10 ready 12 (by omega) (by omega)]
  simp only [Option.bind_some]
  generalize want % 11 = w at h1
  generalize busy % 3 = b at h2
  generalize idle % 40 = d at h3
  generalize ready % 12 = r at h4
  rw [decide_some 1 w 0 nm' i' c' lo' hi' g' r b 0 0 0 0 d (by omega) (by omega) (by omega) (by omega) (by omega) (by omega) (by omega), need_zero 0 c' (by omega) (by omega) (by omega)]
  simp only [Option.bind_some]
  have hm : 1 ≤ mx 1 r ∧ r ≤ mx 1 r := by unfold mx; split <;> omega
  have e1 : panicOf 0 0 (mx 1 r) = 0 := by
    unfold panicOf
    rw [if_neg (by omega)]
    rfl
  rw [e1]
  have e2 : decW w 0 lo' hi' g' r b 0 0 d = lastOf (if b > 0 ∨ (w > 0 ∧ d < g') then 1 else 0) r (mx 1 r) lo' hi' := by
    unfold decW
    rw [e1]
    have hw0 : wantOf w 0 0 0 = 0 := by unfold wantOf; rw [if_neg (by omega)]
    rw [hw0]
    unfold oneOf
    congr 1
    by_cases hc : b > 0 ∨ (w > 0 ∧ d < g')
    · rw [if_pos ⟨rfl, hc⟩, if_pos hc]
    · rw [if_neg (fun h => hc h.2), if_neg hc]
  rw [e2]
  have key : ∀ n : Int, 0 ≤ n → n ≤ 1 → lastOf n r (mx 1 r) lo' hi' = mn hi' (mx (mx n (r / 2)) lo') := by
    intro n hn0 hn1
    generalize mx 1 r = m at hm
    unfold lastOf mn mx
    repeat' split
    all_goals omega
  rw [show (1 + 3 : Nat) = 2 + 1 + 1 from rfl]
  simp only [damperlaw10_ScaleNone.j0]
  by_cases c1 : b > 0
  · rw [if_pos c1, if_pos (.inl c1), key 1 (by omega) (by omega)]
    exact none_j1 2 r 0 true nm' i' c' lo' hi' g' _ h4.1 (by omega) rfl
  · rw [if_neg c1]
    by_cases c2 : w > 0
    · rw [if_pos c2]
      by_cases c3 : d < g'
      · rw [if_pos (.inr ⟨c2, c3⟩), key 1 (by omega) (by omega), decide_eq_true c3]
        exact none_j1 2 r 0 true nm' i' c' lo' hi' g' _ h4.1 (by omega) rfl
      · rw [if_neg (by omega), key 0 (by omega) (by omega), decide_eq_false c3]
        exact none_j1 2 r 0 false nm' i' c' lo' hi' g' _ h4.1 (by omega) rfl
    · rw [if_neg c2, if_neg (by omega), key 0 (by omega) (by omega)]
      exact none_j1 2 r 0 false nm' i' c' lo' hi' g' _ h4.1 (by omega) rfl

end Go.Proofs.Ytlikdmeickbigaa.Pure
