/- Behind a long while of nothing it comes down by halves, to the least, and to none, if that may be.
   Conditions: none beyond the row's own. -/
import Derived.Test.YtlikdmeickbigaaMax22
import Derived.Test.YtlikdmeickbigaaPlain
namespace Go.Proofs.Ytlikdmeickbigaa.Pure
open Go.RowKit Go.Proofs.Ytlikdmeickbigaa.Ma Go.Proofs.Ytlikdmeickbigaa.Plain Go.Proofs.YtlikdmeickbigaaW.PrintWords Go.Proofs.YtlikdmeickbigaaW.PrintLast Go.Proofs.YtlikdmeickbigaaW.PrintMore
set_option linter.unusedVariables false

/-- One turn of nothing. -/
theorem down_step {w lo hi g : Int} {c : Int} (nm : ByteArray) (i : Int) (k : Nat) (F : Fine c lo hi g) (h0 : 0 ≤ w) (h1 : w ≤ 10) :
    scale_Decide.f (k + 3) w 0 nm i c lo hi g w 0 0 6 0 2 1000 = some (mn hi (mx lo (wrap64 (Int.tdiv w 2))), 0) := by
  have := F.c1; have := F.c8; have := F.lo0; have := F.lohi; have := F.hi1; have := F.hi10; have := F.g0; have := F.g30
  rw [decide_some k w 0 nm i c lo hi g w 0 0 6 0 2 1000 (by omega) (by omega) (by omega) (by omega) (by omega) (by omega) (by omega), need_zero 6 c (by omega) (by omega) (by omega), need_zero 2 c (by omega) (by omega) (by omega), half h0 (by omega)]
  have hm : 1 ≤ mx 1 w := by unfold mx; split <;> omega
  have e1 : panicOf 0 0 (mx 1 w) = 0 := by
    unfold panicOf
    rw [if_neg (by omega)]
    rfl
  rw [e1]
  have e2 : decW w 0 lo hi g w 0 0 0 1000 = mn hi (mx lo (w / 2)) := by
    unfold decW
    rw [e1]
    have e3 : oneOf (wantOf w 0 0 0) w 0 1000 g = 0 := by
      unfold wantOf oneOf
      rw [if_neg (by omega), if_neg (by omega)]
    rw [e3]
    generalize mx 1 w = m at hm
    unfold lastOf mn mx
    repeat' split
    all_goals omega
  rw [e2]

/-- How far it has come down, i turns on. -/
def Down (w lo hi x : Int) : Prop := 0 ≤ w ∧ w ≤ 10 ∧ w ≤ hi ∧ (x = 1 → w ≤ mx lo 5) ∧ (x = 2 → w ≤ mx lo 2) ∧ (x = 3 → w ≤ mx lo 1) ∧ (1 ≤ x → lo ≤ w) ∧ (4 ≤ x → w = lo)

theorem down_next {w lo hi x c g : Int} (F : Fine c lo hi g) (h : Down w lo hi x) (hx : 0 ≤ x) : Down (mn hi (mx lo (w / 2))) lo hi (x + 1) := by
  have := F.c1; have := F.c8; have := F.lo0; have := F.lohi; have := F.hi1; have := F.hi10; have := F.g0; have := F.g30
  obtain ⟨h0, h1, h2, h3, h4, h5, h6, h7⟩ := h
  have hx' : x = 0 ∨ x = 1 ∨ x = 2 ∨ x = 3 ∨ 4 ≤ x := by omega
  unfold mx at h3 h4 h5
  unfold Down mn mx
  rcases hx' with rfl | rfl | rfl | rfl | hx'
  · refine ⟨?_, ?_, ?_, ?_, ?_, ?_, ?_, ?_⟩ <;> (repeat' split) <;> omega
  · have := h3 rfl
    refine ⟨?_, ?_, ?_, ?_, ?_, ?_, ?_, ?_⟩ <;> (repeat' split) <;> (repeat' split at this) <;> omega
  · have := h4 rfl
    refine ⟨?_, ?_, ?_, ?_, ?_, ?_, ?_, ?_⟩ <;> (repeat' split) <;> (repeat' split at this) <;> omega
  · have := h5 rfl
    refine ⟨?_, ?_, ?_, ?_, ?_, ?_, ?_, ?_⟩ <;> (repeat' split) <;> (repeat' split at this) <;> omega
  · have := h7 hx'
    refine ⟨?_, ?_, ?_, ?_, ?_, ?_, ?_, ?_⟩ <;> (repeat' split) <;> omega

theorem down_loop {c lo hi g : Int} (nm : ByteArray) (i : Int) (F : Fine c lo hi g) (d : Nat) : ∀ (k : Nat) (w x : Int), (d : Int) = 12 - x → 0 ≤ x → Down w lo hi x → damperlaw10_ScaleDown.l0 (k + d + 4) w x nm i c lo hi g w 0 = some true := by
  induction d with
  | zero =>
    intro k w x hd hx h
    rw [show k + 0 + 4 = k + 3 + 1 from rfl]
    rw [damperlaw10_ScaleDown.l0]
    obtain ⟨_, _, _, _, _, _, _, h7⟩ := h
    rw [if_neg (by omega), h7 (by omega)]
    simp
  | succ d ih =>
    intro k w x hd hx h
    rw [show k + (d + 1) + 4 = (k + d + 4) + 1 from by omega]
    rw [damperlaw10_ScaleDown.l0]
    have hn := down_next F h hx
    rw [if_pos (by omega), show k + d + 4 = (k + d + 1) + 3 from rfl, down_step nm i _ F h.1 h.2.1]
    simp only [Option.bind_some, ↓reduceIte]
    rw [wrap_id (a := x + 1) (by omega) (by omega), half h.1 (by have := h.2.1; omega), show (k + d + 1) + 3 = k + d + 4 from rfl]
    exact ih k _ (x + 1) (by omega) (by omega) hn

theorem ScaleDown : damperlaw10_ScaleDown.Pure := by
  intro nm i c lo hi g from_ _ _ _ _ _ _ _
  obtain ⟨nm', i', c', lo', hi', g', hC, F⟩ := config_some nm i c lo hi g
  have := F.c1; have := F.c8; have := F.lo0; have := F.lohi; have := F.hi1; have := F.hi10; have := F.g0; have := F.g30
  have hf := mod_range from_ 10 (by omega)
  refine ⟨13 + 3, ?_⟩
  unfold damperlaw10_ScaleDown.f
  rw [known_some 13]
  simp only [Option.bind_some, ↓reduceIte]
  rw [hC]
  simp only [Option.bind_some]
  rw [within10 from_ 10 (by omega) (by omega)]
  simp only [Option.bind_some]
  rw [wrap_id (a := 1 + from_ % 10) (by omega) (by omega)]
  refine down_loop nm' i' F 12 0 (mn hi' (1 + from_ % 10)) 0 (by omega) (by omega) ?_
  unfold Down mn
  refine ⟨?_, ?_, ?_, ?_, ?_, ?_, ?_, ?_⟩ <;> (repeat' split) <;> omega

end Go.Proofs.Ytlikdmeickbigaa.Pure
