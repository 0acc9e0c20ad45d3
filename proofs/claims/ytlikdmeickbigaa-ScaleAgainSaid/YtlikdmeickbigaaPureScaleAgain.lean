/- With as many requests as are there, and pods that come up, it comes to what is needed, and stays there.
   Conditions: none beyond the row's own. -/
import Derived.Test.YtlikdmeickbigaaMax21
import Derived.Test.YtlikdmeickbigaaPlain
namespace Go.Proofs.Ytlikdmeickbigaa.Pure
open Go.RowKit Go.Proofs.Ytlikdmeickbigaa.Ma Go.Proofs.Ytlikdmeickbigaa.Plain Go.Proofs.YtlikdmeickbigaaW.PrintWords Go.Proofs.YtlikdmeickbigaaW.PrintLast Go.Proofs.YtlikdmeickbigaaW.PrintMore
set_option linter.unusedVariables false

theorem div_is {a b q : Int} (hb : 0 < b) (h1 : q * b ≤ a) (h2 : a < q * b + b) : a / b = q := by
  have e1 : q ≤ a / b := (Int.le_ediv_iff_mul_le hb).2 h1
  have e2 : a / b < q + 1 := (Int.ediv_lt_iff_lt_mul hb).2 (by rw [Int.add_mul]; omega)
  omega

/-- What is needed is the same by both whiles. -/
theorem need_both (v c : Int) (hv : 1 ≤ v) (hv2 : v ≤ 80) (hc : 1 ≤ c) : need (2 * v) 2 c = need (6 * v) 6 c ∧ 1 ≤ need (6 * v) 6 c := by
  have hq := Int.ediv_mul_le (v + c - 1) (show c ≠ 0 by omega)
  have hq2 := Int.lt_ediv_add_one_mul_self (v + c - 1) (show 0 < c by omega)
  generalize e : (v + c - 1) / c = q at hq hq2
  have hq0 : 1 ≤ q := by rw [← e]; exact (Int.le_ediv_iff_mul_le (by omega)).2 (by omega)
  rw [Int.add_mul] at hq2
  have h6 : need (6 * v) 6 c = q := by
    unfold need
    rw [if_neg (by omega)]
    refine div_is (by omega) ?_ ?_
    · rw [show q * (6 * c) = 6 * (q * c) from by rw [Int.mul_left_comm]]; omega
    · rw [show q * (6 * c) = 6 * (q * c) from by rw [Int.mul_left_comm]]; omega
  have h2 : need (2 * v) 2 c = q := by
    unfold need
    rw [if_neg (by omega)]
    refine div_is (by omega) ?_ ?_
    · rw [show q * (2 * c) = 2 * (q * c) from by rw [Int.mul_left_comm]]; omega
    · rw [show q * (2 * c) = 2 * (q * c) from by rw [Int.mul_left_comm]]; omega
  rw [h6, h2]
  exact ⟨rfl, hq0⟩

/-- One turn: how many, how long. -/
def tw (q lo hi w l r : Int) : Int := lastOf (wantOf w (panicOf l q (mx 1 r)) q q) r (mx 1 r) lo hi
def tl (q l r : Int) : Int := panicOf l q (mx 1 r)

theorem again_step {c lo hi g : Int} (k : Nat) (nm : ByteArray) (i : Int) (F : Fine c lo hi g) (w l r v : Int) (hw : 0 ≤ w) (hl : 0 ≤ l ∧ l ≤ 6) (hr : 0 ≤ r ∧ r ≤ 1000000) (hv : 1 ≤ v) (hv2 : v ≤ 80) :
    scale_Decide.f (k + 3) w l nm i c lo hi g r v (6 * v) 6 (2 * v) 2 0 = some (tw (need (6 * v) 6 c) lo hi w l r, tl (need (6 * v) 6 c) l r) := by
  have := F.c1; have := F.c8; have := F.lo0; have := F.lohi; have := F.hi1; have := F.hi10; have := F.g0; have := F.g30
  obtain ⟨e, h1⟩ := need_both v c hv hv2 (by omega)
  rw [decide_some k w l nm i c lo hi g r v (6 * v) 6 (2 * v) 2 0 hl (by omega) hr (by omega) (by omega) (by omega) (by omega), e]
  generalize need (6 * v) 6 c = q at h1
  have h2 : 1 ≤ wantOf w (panicOf l q (mx 1 r)) q q := by
    generalize panicOf l q (mx 1 r) = x
    unfold wantOf mx
    repeat' split <;> omega
  have h3 : oneOf (wantOf w (panicOf l q (mx 1 r)) q q) w v 0 g = wantOf w (panicOf l q (mx 1 r)) q q := by
    unfold oneOf
    rw [if_neg (by omega)]
  unfold decW
  rw [h3]
  rfl

/-- How far it is from where it stays. -/
def rank (q lo hi w l : Int) : Int :=
  if q ≥ 2 * hi then 2 * (hi - w) + (if l = 6 then 0 else 1)
  else if 2 * w ≤ q then 17 + (hi - w)
  else if l > 0 then 10 + l
  else if w ≤ mn (mx q lo) hi then mn (mx q lo) hi - w else w - mn (mx q lo) hi

structure At (q lo hi w l : Int) : Prop where
  q1 : 1 ≤ q
  lo0 : 0 ≤ lo
  low : lo ≤ w
  whi : w ≤ hi
  w1 : 1 ≤ w
  hi10 : hi ≤ 10
  l0 : 0 ≤ l
  l6 : l ≤ 6

theorem tw_at {q lo hi w l r : Int} (hq : 1 ≤ q) (hlo : 0 ≤ lo) (hh : lo ≤ hi) (hi1 : 1 ≤ hi) (hi10 : hi ≤ 10) (hw : 0 ≤ w) (hl : 0 ≤ l ∧ l ≤ 6) (hr : 0 ≤ r) : At q lo hi (tw q lo hi w l r) (tl q l r) := by
  have hm : 1 ≤ mx 1 r := by unfold mx; split <;> omega
  have hp : 0 ≤ panicOf l q (mx 1 r) ∧ panicOf l q (mx 1 r) ≤ 6 := by unfold panicOf mx; repeat' split <;> omega
  unfold tw tl
  generalize mx 1 r = m at hm hp
  generalize panicOf l q m = p at hp
  have hw0 : 1 ≤ wantOf w p q q := by unfold wantOf mx; repeat' split <;> omega
  generalize wantOf w p q q = x at hw0
  have h1 : lo ≤ lastOf x r m lo hi := by unfold lastOf mn mx; repeat' split <;> omega
  have h2 : lastOf x r m lo hi ≤ hi := by unfold lastOf mn mx; repeat' split <;> omega
  have h3 : 1 ≤ lastOf x r m lo hi := by unfold lastOf mn mx; repeat' split <;> omega
  exact ⟨hq, hlo, h1, h2, h3, hi10, hp.1, hp.2⟩

theorem rank_bound {q lo hi w l : Int} (h : At q lo hi w l) : 0 ≤ rank q lo hi w l ∧ rank q lo hi w l ≤ 26 := by
  obtain ⟨h1, h2, h3, h4, h5, h6, h7, h8⟩ := h
  unfold rank mn mx
  repeat' split
  all_goals omega

/-- A turn where as many are ready as were asked for. -/
theorem turn_is {q lo hi w l : Int} (h : At q lo hi w l) : mx 1 w = w ∧ tl q l w = (if q ≥ 2 * w then 6 else mx (l - 1) 0) ∧
    tw q lo hi w l w = (if q ≥ 2 * w then mn (mx (mn q (4 * w)) lo) hi else if l > 1 then mn (mx (mx w q) lo) hi else mn (mx (mx q (w / 2)) lo) hi) := by
  obtain ⟨h1, h2, h3, h4, h5, h6, h7, h8⟩ := h
  have hm : mx 1 w = w := by unfold mx; split <;> omega
  refine ⟨hm, ?_, ?_⟩
  · unfold tl panicOf
    rw [hm]
  · unfold tw panicOf wantOf lastOf
    rw [hm]
    by_cases c1 : q ≥ 2 * w
    · rw [if_pos c1, if_pos c1, if_pos (by omega)]
      unfold mn mx
      repeat' split
      all_goals omega
    · rw [if_neg c1, if_neg c1]
      by_cases c2 : l > 1
      · have : mx (l - 1) 0 > 0 := by unfold mx; split <;> omega
        rw [if_pos this, if_pos c2]
        unfold mn mx
        repeat' split
        all_goals omega
      · have : ¬ mx (l - 1) 0 > 0 := by unfold mx; split <;> omega
        rw [if_neg this, if_neg c2]
        unfold mn mx
        repeat' split
        all_goals omega

theorem rank_zero {q lo hi w l : Int} (h : At q lo hi w l) (h0 : rank q lo hi w l = 0) : tw q lo hi w l w = w ∧ tl q l w = l ∧ ((q ≥ 2 * hi ∧ w = hi ∧ l = 6) ∨ (l = 0 ∧ w = mn (mx q lo) hi)) := by
  obtain ⟨_, e1, e2⟩ := turn_is h
  obtain ⟨h1, h2, h3, h4, h5, h6, h7, h8⟩ := h
  rw [e1, e2]
  unfold rank at h0
  by_cases c1 : q ≥ 2 * hi
  · rw [if_pos c1] at h0
    have hl : l = 6 := by split at h0 <;> omega
    have hw : w = hi := by split at h0 <;> omega
    subst hl hw
    rw [if_pos c1, if_pos c1]
    refine ⟨?_, rfl, .inl ⟨c1, rfl, rfl⟩⟩
    unfold mn mx
    repeat' split
    all_goals omega
  · rw [if_neg c1] at h0
    by_cases c2 : 2 * w ≤ q
    · rw [if_pos c2] at h0
      omega
    · rw [if_neg c2] at h0
      by_cases c3 : l > 0
      · rw [if_pos c3] at h0
        omega
      · rw [if_neg c3] at h0
        have hl : l = 0 := by omega
        have hw : w = mn (mx q lo) hi := by split at h0 <;> omega
        rw [if_neg (by omega), if_neg (by omega), if_neg (by omega)]
        refine ⟨?_, ?_, .inr ⟨hl, hw⟩⟩
        · unfold mn mx at hw ⊢
          repeat' split at hw
          all_goals (repeat' split)
          all_goals omega
        · unfold mx
          split <;> omega

theorem rank_step {q lo hi w l : Int} (h : At q lo hi w l) (h0 : rank q lo hi w l > 0) : rank q lo hi (tw q lo hi w l w) (tl q l w) < rank q lo hi w l := by
  obtain ⟨_, e1, e2⟩ := turn_is h
  obtain ⟨h1, h2, h3, h4, h5, h6, h7, h8⟩ := h
  rw [e1, e2]
  by_cases c1 : q ≥ 2 * hi
  · have c2 : q ≥ 2 * w := by omega
    rw [if_pos c2, if_pos c2]
    have hw : w < hi → w < mn (mx (mn q (4 * w)) lo) hi := by intro hlt; unfold mn mx; repeat' split <;> omega
    have hw2 : mn (mx (mn q (4 * w)) lo) hi ≤ hi := by unfold mn mx; repeat' split <;> omega
    have hw3 : w ≤ mn (mx (mn q (4 * w)) lo) hi := by unfold mn mx; repeat' split <;> omega
    generalize mn (mx (mn q (4 * w)) lo) hi = x at hw hw2 hw3
    unfold rank at h0 ⊢
    rw [if_pos c1] at h0 ⊢
    rw [if_pos c1]
    split at h0 <;> split <;> omega
  · by_cases c2 : q ≥ 2 * w
    · rw [if_pos c2, if_pos c2]
      have hw : w < mn (mx (mn q (4 * w)) lo) hi := by unfold mn mx; repeat' split <;> omega
      have hw2 : mn (mx (mn q (4 * w)) lo) hi ≤ hi := by unfold mn mx; repeat' split <;> omega
      generalize mn (mx (mn q (4 * w)) lo) hi = x at hw hw2
      unfold rank
      rw [if_neg c1, if_neg c1, if_pos (show 2 * w ≤ q from c2)]
      by_cases c3 : 2 * x ≤ q
      · rw [if_pos c3]
        omega
      · rw [if_neg c3, if_pos (by omega)]
        omega
    · rw [if_neg c2, if_neg c2]
      unfold rank at h0 ⊢
      rw [if_neg c1, if_neg (by omega)] at h0
      rw [if_neg c1, if_neg c1, if_neg (show ¬ 2 * w ≤ q by omega)]
      by_cases c3 : l > 1
      · rw [if_pos c3, if_pos (by omega : l > 0)]
        have e : mx (l - 1) 0 = l - 1 := by unfold mx; split <;> omega
        rw [e]
        have hw : w ≤ mn (mx (mx w q) lo) hi := by unfold mn mx; repeat' split <;> omega
        rw [if_neg (by omega), if_pos (by omega)]
        omega
      · rw [if_neg c3]
        have e : mx (l - 1) 0 = 0 := by unfold mx; split <;> omega
        rw [e]
        have hx : 2 * mn (mx (mx q (w / 2)) lo) hi > q := by unfold mn mx; repeat' split <;> omega
        rw [if_neg (by omega), if_neg (by omega)]
        by_cases c4 : l > 0
        · rw [if_pos c4]
          unfold mn mx
          repeat' split
          all_goals omega
        · rw [if_neg c4] at h0 ⊢
          unfold mn mx at h0 ⊢
          repeat' split at h0
          all_goals (repeat' split)
          all_goals omega

theorem again_loop {c lo hi g : Int} (nm : ByteArray) (i : Int) (F : Fine c lo hi g) (v : Int) (hv : 1 ≤ v) (hv2 : v ≤ 80) (d : Nat) :
    ∀ (k : Nat) (w l x : Int), (d : Int) = 30 - x → 0 ≤ x → At (need (6 * v) 6 c) lo hi w l → rank (need (6 * v) 6 c) lo hi w l ≤ d → damperlaw10_ScaleAgain.l0 (k + d + 4) v w x nm i c lo hi g w l = some true := by
  have := F.c1; have := F.c8; have := F.lo0; have := F.lohi; have := F.hi1; have := F.hi10; have := F.g0; have := F.g30
  induction d with
  | zero =>
    intro k w l x hd hx A hr
    have hb := rank_bound A
    obtain ⟨z1, z2, z3⟩ := rank_zero A (by omega)
    have A' := A
    obtain ⟨h1, h2, h3, h4, h5, h6, h7, h8⟩ := A'
    rw [show k + 0 + 4 = k + 3 + 1 from rfl, damperlaw10_ScaleAgain.l0]
    rw [if_neg (by omega), wrap_id (a := 6 * v) (by omega) (by omega), wrap_id (a := 2 * v) (by omega) (by omega), need_ref (6 * v) 6 c (by omega) (by omega) (by omega) (by omega) (by omega) (by omega)]
    simp only [Option.bind_some]
    rw [again_step k nm i F w l w v (by omega) ⟨h7, h8⟩ (by omega) hv hv2]
    simp only [Option.bind_some]
    rw [z1, half (by omega) (by omega)]
    generalize need (6 * v) 6 c = q at *
    have e1 : w ≥ mx lo (mn hi q) := by
      rcases z3 with ⟨a1, a2, a3⟩ | ⟨a1, a2⟩
      · subst a2; unfold mn mx; repeat' split <;> omega
      · rw [a2]; unfold mn mx; repeat' split <;> omega
    rw [if_pos e1, if_pos h4, if_pos rfl]
    rcases z3 with ⟨a1, a2, a3⟩ | ⟨a1, a2⟩
    · rw [if_pos (by omega)]
    · rw [if_neg (by omega)]
      have e2 : w = mx (mx lo (mn hi q)) (mn hi (w / 2)) := by
        unfold mn mx at a2 ⊢
        repeat' split at a2
        all_goals (repeat' split)
        all_goals omega
      rw [← e2]
      simp
  | succ d ih =>
    intro k w l x hd hx A hr
    have hb := rank_bound A
    have A' := A
    obtain ⟨h1, h2, h3, h4, h5, h6, h7, h8⟩ := A'
    rw [show k + (d + 1) + 4 = (k + d + 4) + 1 from by omega, damperlaw10_ScaleAgain.l0]
    rw [if_pos (by omega), wrap_id (a := 6 * v) (by omega) (by omega), wrap_id (a := 2 * v) (by omega) (by omega), show k + d + 4 = (k + d + 1) + 3 from rfl, again_step (k + d + 1) nm i F w l w v (by omega) ⟨h7, h8⟩ (by omega) hv hv2]
    simp only [Option.bind_some]
    rw [wrap_id (a := x + 1) (by omega) (by omega), show (k + d + 1) + 3 = k + d + 4 from rfl]
    have A2 := tw_at (r := w) h1 h2 (show lo ≤ hi by omega) (by omega) h6 (show 0 ≤ w by omega) ⟨h7, h8⟩ (show 0 ≤ w by omega)
    refine ih k _ _ (x + 1) (by omega) (by omega) A2 ?_
    by_cases h0 : rank (need (6 * v) 6 c) lo hi w l > 0
    · have := rank_step A h0
      omega
    · obtain ⟨z1, z2, _⟩ := rank_zero A (by omega)
      rw [z1, z2]
      omega

theorem again_first {c lo hi g : Int} (nm : ByteArray) (i : Int) (F : Fine c lo hi g) (k : Nat) (v w r : Int) (hv : 1 ≤ v) (hv2 : v ≤ 80) (hw : 0 ≤ w) (hr : 0 ≤ r ∧ r ≤ 1000000) :
    damperlaw10_ScaleAgain.l0 (k + 34) v r 0 nm i c lo hi g w 0 = some true := by
  have := F.c1; have := F.c8; have := F.lo0; have := F.lohi; have := F.hi1; have := F.hi10; have := F.g0; have := F.g30
  obtain ⟨_, hq⟩ := need_both v c hv hv2 (by omega)
  rw [show k + 34 = (k + 30 + 3) + 1 from rfl, damperlaw10_ScaleAgain.l0]
  rw [if_pos (by omega), wrap_id (a := 6 * v) (by omega) (by omega), wrap_id (a := 2 * v) (by omega) (by omega), again_step (k + 30) nm i F w 0 r v hw (by omega) hr hv hv2, Option.bind_some, wrap_id (a := (0 : Int) + 1) (by omega) (by omega), show k + 30 + 3 = k + 29 + 4 from rfl]
  have A := tw_at (q := need (6 * v) 6 c) (lo := lo) (hi := hi) (w := w) (l := 0) (r := r) hq (by omega) (by omega) (by omega) (by omega) hw (by omega) (by omega)
  have hb : rank (need (6 * v) 6 c) lo hi (tw (need (6 * v) 6 c) lo hi w 0 r) (tl (need (6 * v) 6 c) 0 r) ≤ (29 : Nat) := by have := rank_bound A; omega
  exact again_loop nm i F v hv hv2 29 k _ _ (0 + 1) (by omega) (by omega) A hb

theorem again_law (k : Nat) {c lo hi g c' lo' hi' g' : Int} (nm nm' : ByteArray) (i i' load from_ : Int) (F : Fine c' lo' hi' g') (hC : damperlaw2_Config.f nm i c lo hi g 0 = some (nm', i', c', lo', hi', g')) :
    damperlaw10_ScaleAgain.f (k + 34) nm i c lo hi g load from_ = some true := by
  have h1 := mod_range load 80 (by omega)
  have h2 := mod_range from_ 11 (by omega)
  unfold damperlaw10_ScaleAgain.f
  rw [show k + 34 = (k + 31) + 3 from rfl, known_some (k + 31), Option.bind_some, if_pos rfl, hC, Option.bind_some]
  generalize wrap64 (Int.tdiv from_ 11) = y
  have h3 := mod_range y 11 (by omega)
  rw [within10 load 80 (by omega) (by omega), within10 from_ 11 (by omega) (by omega), within10 y 11 (by omega) (by omega), Option.bind_some, Option.bind_some, Option.bind_some, wrap_id (a := 1 + load % 80) (by omega) (by omega), show (k + 31) + 3 = k + 34 from rfl]
  exact again_first nm' i' F k (1 + load % 80) (from_ % 11) (y % 11) (by omega) (by omega) (by omega) (by omega)

theorem ScaleAgain : damperlaw10_ScaleAgain.Pure := by
  intro nm i c lo hi g load from_ _ _ _ _ _ _ _ _
  obtain ⟨nm', i', c', lo', hi', g', hC, F⟩ := config_some nm i c lo hi g
  exact ⟨0 + 34, again_law 0 nm nm' i i' load from_ F hC⟩

end Go.Proofs.Ytlikdmeickbigaa.Pure
