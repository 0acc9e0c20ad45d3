/- Any event is allowed, or refused, as the document says; one that may be, with one thing turned, too. -/
import Derived.Test.YtalpoojepffldaaDoorMax0
import Derived.Test.YtalpoojepffldaaDoorPb
import Derived.Test.YtalpoojepffldaaDoorPe
import Derived.Test.YtalpoojepffldaaDoorPf
import Derived.Test.YtalpoojepffldaaDoorZChecks
import Derived.Test.YtalpoojepffldaaDoorZChecks
namespace Go.Proofs.YtalpoojepffldaaDoor.Pure
open Go.RowKit Go.Proofs.YtalpoojepffldaaDoor.Ma Go.Proofs.YtalpoojepffldaaDoor.Plain Go.Proofs.YtalpoojepffldaaDoorW.PrintWords Go.Proofs.YtalpoojepffldaaDoorW.PrintLast
set_option linter.unusedVariables false
set_option linter.unusedSimpArgs false

theorem bound_of : ∀ l : List S39, ∃ B : Nat, 400 ≤ B ∧ ∀ t ∈ l, t.f0.data.toList.length + 30 ≤ B ∧ t.f1.data.toList.length + 30 ≤ B
  | [] => ⟨400, Nat.le_refl _, fun t h => by cases h⟩
  | t :: l => by
    obtain ⟨B, h0, h⟩ := bound_of l
    refine ⟨B + t.f0.data.toList.length + t.f1.data.toList.length + 30, by omega, fun x hx => ?_⟩
    rcases List.mem_cons.1 hx with rfl | hx
    · omega
    · have := h x hx
      omega
theorem few_eq (a0_0 : Int) (a0_1 a0_2 : ByteArray) (a0_3 a0_4 : Int) (a0_5 : ByteArray) (a0_6 a0_7 a0_8 a0_9 a0_10 : Int) (a0_11 a0_12 : ByteArray) (l0_13 : List S39) (a0_14 : Int) :
    damperlaw3_Few.f a0_0 a0_1 a0_2 a0_3 a0_4 a0_5 a0_6 a0_7 a0_8 a0_9 a0_10 a0_11 a0_12 l0_13 a0_14 = some (decide (a0_1.size ≤ 300 ∧ a0_2.size ≤ 300 ∧ a0_5.size ≤ 300 ∧ l0_13.length ≤ 12 ∧ a0_11.size ≤ 60 ∧ a0_12.size ≤ 60)) := by
  unfold damperlaw3_Few.f damperlaw2_Few.f
  by_cases p1 : (a0_1.size : Int) ≤ 300
  · rw [if_pos p1]
    by_cases p2 : (a0_2.size : Int) ≤ 300
    · rw [if_pos p2]
      by_cases p3 : (a0_5.size : Int) ≤ 300
      · rw [if_pos p3]
        by_cases p4 : (l0_13.length : Int) ≤ 12
        · rw [if_pos p4]
          by_cases p5 : (a0_11.size : Int) ≤ 60
          · rw [if_pos p5, Option.bind_some]
            by_cases p6 : (a0_12.size : Int) ≤ 60
            · rw [decide_eq_true p6, decide_eq_true (by omega)]
            · rw [decide_eq_false p6, decide_eq_false (by omega)]
          · rw [if_neg p5, decide_eq_false (by omega)]; rfl
        · rw [if_neg p4, decide_eq_false (by omega)]; rfl
      · rw [if_neg p3, decide_eq_false (by omega)]
    · rw [if_neg p2, decide_eq_false (by omega)]
  · rw [if_neg p1, decide_eq_false (by omega)]
theorem both (B : Nat) (hB : 400 ≤ B) (k : Nat) (hk : B + 80 ≤ k) (kd : Int) (nm tg : ByteArray) (n dr : Int) (c0 : ByteArray) (c1 c2 c3 c4 c5 : Int) (rn rc : ByteArray) (ts : List S39) (ro : Int) (h1 : nm.size ≤ 300) (h2 : tg.size ≤ 300) (h3 : c0.size ≤ 300) (h4 : rn.size ≤ 300) (h5 : rc.size ≤ 300) (h6 : ts.length ≤ 200)
    (h7 : ∀ t ∈ ts, t.f0.size ≤ 140737488351232 ∧ t.f1.size ≤ 140737488351232 ∧ t.f0.data.toList.length + 30 ≤ B ∧ t.f1.data.toList.length + 30 ≤ B) :
    event_Check.f k kd nm tg n dr c0 c1 c2 c3 c4 c5 rn rc ts ro = some (chkV kd nm tg n dr c0 c1 c2 c3 c4 c5 rn rc ts ro) ∧ damperref3_Check.f k kd nm tg n dr c0 c1 c2 c3 c4 c5 rn rc ts ro = some (chkV kd nm tg n dr c0 c1 c2 c3 c4 c5 rn rc ts ro) := by
  have z : ∀ s : ByteArray, s.data.toList.length = s.size := fun _ => rfl
  have z1 := z nm
  have z2 := z tg
  have z3 := z c0
  have z4 := z rn
  have z5 := z rc
  exact ⟨chk_eq k (by omega) kd nm tg n dr c0 c1 c2 c3 c4 c5 rn rc ts ro (by omega) (fun t ht => (h7 t ht).1),
    rchk_eq k B hk kd nm tg n dr c0 c1 c2 c3 c4 c5 rn rc ts ro ⟨by omega, by omega⟩ ⟨by omega, by omega⟩ ⟨by omega, by omega⟩ ⟨by omega, by omega⟩ ⟨by omega, by omega⟩ ⟨by omega, by omega⟩ (fun t ht => by have := h7 t ht; exact ⟨by omega, by omega, this.2.2.1, this.2.2.2⟩)⟩
theorem EventChecks : damperlaw3_EventChecks.Pure := by
  intro a0_0 a0_1 a0_2 a0_3 a0_4 a0_5 a0_6 a0_7 a0_8 a0_9 a0_10 a0_11 a0_12 l0_13 a0_14 a1 a2 a3 a4 a5_0 a5_1 a5_2 a5_3 a5_4 a5_5 l6 a7 a8 _ _ _ _ _ _ _ _ _ _ _ _ _ hts _ _ _ _ _ _ _ _ _ _ _ hl _ _
  obtain ⟨B, hB0, hB⟩ := bound_of l0_13
  refine ⟨B + 200, ?_⟩
  unfold damperlaw3_EventChecks.f
  rw [show damperlaw3_known.f = some true from rfl, Option.bind_some, if_pos rfl, few_eq, Option.bind_some]
  by_cases hf : a0_1.size ≤ 300 ∧ a0_2.size ≤ 300 ∧ a0_5.size ≤ 300 ∧ l0_13.length ≤ 12 ∧ a0_11.size ≤ 60 ∧ a0_12.size ≤ 60
  rotate_left
  · rw [decide_eq_false hf, if_neg (by decide)]
  rw [decide_eq_true hf, if_pos rfl]
  obtain ⟨f1, f2, f3, f4, f5, f6⟩ := hf
  obtain ⟨kd, nm, tg, n, dr, c0, c1, c2, c3, c4, c5, rn, rc, ts, ro, hm, M⟩ := make_ok (B + 200) (by omega) a1 a2 a3 a4 a5_0 a5_1 a5_2 a5_3 a5_4 a5_5 l6 (by have := hl.1; simp only [maxLen] at this; omega)
  have F := M.fit
  rw [hm, Option.bind_some]
  dsimp only
  obtain ⟨r1, r2⟩ := both B hB0 (B + 200) (by omega) a0_0 a0_1 a0_2 a0_3 a0_4 a0_5 a0_6 a0_7 a0_8 a0_9 a0_10 a0_11 a0_12 l0_13 a0_14 f1 f2 f3 (by omega) (by omega) (by omega) (fun t ht => ⟨(hts.2 t ht).1, (hts.2 t ht).2.1, hB t ht⟩)
  have z : ∀ s : ByteArray, s.data.toList.length = s.size := fun _ => rfl
  have ht5 : ∀ t ∈ ts, t.f0.size ≤ 140737488351232 ∧ t.f1.size ≤ 140737488351232 ∧ t.f0.data.toList.length + 30 ≤ B ∧ t.f1.data.toList.length + 30 ≤ B := fun t ht => by
    have h := F.tsF t ht
    have e0 := z t.f0
    have e1 := z t.f1
    have := h.1
    have := h.2.1
    omega
  obtain ⟨q1, _⟩ := both B hB0 (B + 200) (by omega) kd nm tg n dr c0 c1 c2 c3 c4 c5 rn rc ts ro (by have := F.nmF; omega) (by have := F.tgF; omega) (by have := F.c0F; omega) (by have := F.rnF; omega) (by have := F.rcF; omega) (by have := F.tlF; omega) ht5
  rw [r1, Option.bind_some, r2, Option.bind_some, if_pos rfl, q1, Option.bind_some, M.ok]
  have j1 : ∀ (kd : Int) (nm tg : ByteArray) (n dr : Int) (c0 : ByteArray) (c1 c2 c3 c4 c5 : Int) (rn rc : ByteArray) (ts : List S39) (ro : Int), nm.size ≤ 300 → tg.size ≤ 300 → c0.size ≤ 300 → rn.size ≤ 300 → rc.size ≤ 300 → ts.length ≤ 200 →
      (∀ t ∈ ts, t.f0.size ≤ 140737488351232 ∧ t.f1.size ≤ 140737488351232 ∧ t.f0.data.toList.length + 30 ≤ B ∧ t.f1.data.toList.length + 30 ≤ B) → damperlaw3_EventChecks.j1 (B + 199) kd nm tg n dr c0 c1 c2 c3 c4 c5 rn rc ts ro = some true := by
    intro kd nm tg n dr c0 c1 c2 c3 c4 c5 rn rc ts ro g1 g2 g3 g4 g5 g6 g7
    obtain ⟨u1, u2⟩ := both B hB0 (B + 198) (by omega) kd nm tg n dr c0 c1 c2 c3 c4 c5 rn rc ts ro g1 g2 g3 g4 g5 g6 g7
    rw [show B + 199 = (B + 198) + 1 from rfl, damperlaw3_EventChecks.j1, u1, Option.bind_some, u2, Option.bind_some, beq_self_eq_true]
  have n1 := F.nmF
  have n2 := F.tgF
  have n3 := F.c0F
  have n4 := F.rnF
  have n5 := F.rcF
  have n6 := F.tlF
  have w8 := wi_in a7 8 (by decide) (by decide)
  have w3 := wi_in a8 3 (by decide) (by decide)
  have w6 := wi_in a8 6 (by decide) (by decide)
  have w5 := wi_in a8 5 (by decide) (by decide)
  obtain ⟨tx, htx, htl⟩ := text_ok l6
  rw [show B + 200 = (B + 199) + 1 from rfl, damperlaw3_EventChecks.j0, if_neg (by decide)]
  rcases (show wi a7 8 = 0 ∨ wi a7 8 = 1 ∨ wi a7 8 = 2 ∨ wi a7 8 = 3 ∨ wi a7 8 = 4 ∨ wi a7 8 = 5 ∨ wi a7 8 = 6 ∨ wi a7 8 = 7 by omega) with hq | hq | hq | hq | hq | hq | hq | hq <;> rw [hq]
  · rw [if_pos rfl, Option.bind_some, if_pos w3.1, if_pos (by simp; omega)]
    exact j1 _ _ _ _ _ _ _ _ _ _ _ _ _ _ _ (by omega) (by omega) (by omega) (by omega) (by omega) (by omega) ht5
  · rw [if_neg (by decide), if_pos rfl, Option.bind_some, if_pos w6.1, if_pos (by simp; omega)]
    exact j1 _ _ _ _ _ _ _ _ _ _ _ _ _ _ _ (by omega) (by omega) (by omega) (by omega) (by omega) (by omega) ht5
  · rw [if_neg (by decide), if_neg (by decide), if_pos rfl, Option.bind_some, if_pos w5.1, if_pos (by simp; omega)]
    exact j1 _ _ _ _ _ _ _ _ _ _ _ _ _ _ _ (by omega) (by omega) (by omega) (by omega) (by omega) (by omega) ht5
  · rw [if_neg (by decide), if_neg (by decide), if_neg (by decide), if_pos rfl, htx _ (by omega), Option.bind_some]
    exact j1 _ _ _ _ _ _ _ _ _ _ _ _ _ _ _ (by omega) (by omega) (by omega) (by omega) (by omega) (by omega) ht5
  · rw [if_neg (by decide), if_neg (by decide), if_neg (by decide), if_neg (by decide), if_pos rfl, htx _ (by omega), Option.bind_some]
    exact j1 _ _ _ _ _ _ _ _ _ _ _ _ _ _ _ (by omega) (by omega) (by omega) (by omega) (by omega) (by omega) ht5
  · rw [if_neg (by decide), if_neg (by decide), if_neg (by decide), if_neg (by decide), if_neg (by decide), if_pos rfl]
    exact j1 _ _ _ _ _ _ _ _ _ _ _ _ _ _ _ (by omega) (by omega) (by omega) (by omega) (by omega) (by omega) ht5
  · rw [if_neg (by decide), if_neg (by decide), if_neg (by decide), if_neg (by decide), if_neg (by decide), if_neg (by decide), if_pos rfl]
    exact j1 _ _ _ _ _ _ _ _ _ _ _ _ _ _ _ (by omega) (by omega) (by omega) (by omega) (by omega) (by omega) ht5
  · rw [if_neg (by decide), if_neg (by decide), if_neg (by decide), if_neg (by decide), if_neg (by decide), if_neg (by decide), if_neg (by decide), if_pos rfl, Option.bind_some, List.nil_append, if_pos (by simp only [List.length_nil]; omega), Option.bind_some, if_pos (by omega)]
    refine j1 _ _ _ _ _ _ _ _ _ _ _ _ _ _ _ (by omega) (by omega) (by omega) (by omega) (by omega) (by rw [List.length_append, List.length_singleton]; omega) (fun t ht => ?_)
    rcases List.mem_append.1 ht with h | h
    · exact ht5 t h
    · rw [List.mem_singleton.1 h]
      refine ⟨Nat.zero_le _, Nat.zero_le _, ?_, ?_⟩ <;> (show 0 + 30 ≤ B; omega)
end Go.Proofs.YtalpoojepffldaaDoor.Pure
