-- Written by a program of this session (wip/tools/pack.py) out of its printed parts. Not trusted: Lean checks it.
import Derived.Test.YtalpoojepffldaaDoorMka
import Derived.Test.YtalpoojepffldaaDoorMkb
import Derived.Test.YtalpoojepffldaaDoorMkc
import Derived.Test.YtalpoojepffldaaDoorMkd
import Derived.Test.YtalpoojepffldaaDoorMke
import Derived.Test.YtalpoojepffldaaDoorMax0
import Derived.Test.YtalpoojepffldaaDoorPa
import Derived.Test.YtalpoojepffldaaDoorPb
import Derived.Test.YtalpoojepffldaaDoorPc
import Derived.Test.YtalpoojepffldaaDoorPd
import Derived.Test.YtalpoojepffldaaDoorPe
namespace Go.Proofs.YtalpoojepffldaaDoor.Ma
open Go.RowKit Go.Proofs.YtalpoojepffldaaDoorW.PrintWords Go.Proofs.YtalpoojepffldaaDoorW.PrintLast Go.Proofs.YtalpoojepffldaaDoorW.PrintMore
attribute [local go_sem] max2_int min2_int max_two min_two max_three min_three max_four min_four   -- for this text's walks alone
set_option linter.unusedVariables false
set_option linter.unusedSimpArgs false

section
/-! ### damperlaw3_Make: function 14 -/
def damperlaw3_Make.f (k : Nat) (a0 a1 a2 a3 : Int) (a4_0 : ByteArray) (a4_1 a4_2 a4_3 a4_4 a4_5 : Int) (l5 : List Int) : Option (Int × ByteArray × ByteArray × Int × Int × ByteArray × Int × Int × Int × Int × Int × ByteArray × ByteArray × List (S39) × Int) :=
  if wi a0 13 = 0 then (damperlaw2_Config.f a4_0 a4_1 a4_2 a4_3 a4_4 a4_5 a3).bind fun c => some (1, ⟨#[]⟩, ⟨#[]⟩, wi a1 30, 0, c.1, c.2.1, c.2.2.1, c.2.2.2.1, c.2.2.2.2.1, c.2.2.2.2.2, ⟨#[]⟩, ⟨#[]⟩, [], 0) else
  if wi a0 13 = 1 then (damperlaw2_Route.f k a3 l5 a2).bind fun t => some (2, ⟨#[]⟩, ⟨#[]⟩, wi a1 30, 0, ⟨#[]⟩, 0, 0, 0, 0, 0, t.1, t.2.1, t.2.2.1, t.2.2.2) else
  if wi a0 13 = 2 then some (3, nm6 (wi a3 6), ⟨#[]⟩, 1 + wi a1 2, wi a2 30, ⟨#[]⟩, 0, 0, 0, 0, 0, ⟨#[]⟩, ⟨#[]⟩, [], 0) else
  if wi a0 13 = 3 then some (4, nm3 (wi a3 3), tg4 (wi (wrap64 (Int.tdiv a3 3)) 4), 1 + wi a1 60, wi a2 2147483648, ⟨#[]⟩, 0, 0, 0, 0, 0, ⟨#[]⟩, ⟨#[]⟩, [], 0) else
  if wi a0 13 = 4 then some (5, ⟨#[]⟩, ⟨#[]⟩, 1 + wi a1 60, 0, ⟨#[]⟩, 0, 0, 0, 0, 0, ⟨#[]⟩, ⟨#[]⟩, [], 0) else
  if wi a0 13 = 5 then some (6, ⟨#[]⟩, ⟨#[]⟩, 1 + wi a1 12, 0, ⟨#[]⟩, 0, 0, 0, 0, 0, ⟨#[]⟩, ⟨#[]⟩, [], 0) else
  if wi a0 13 = 6 then some (7, ⟨#[]⟩, ⟨#[]⟩, 1 + wi a1 12, 0, ⟨#[]⟩, 0, 0, 0, 0, 0, ⟨#[]⟩, ⟨#[]⟩, [], 0) else
  if wi a0 13 = 7 then some (8, ⟨#[]⟩, ⟨#[]⟩, 1 + wi a1 12, 0, ⟨#[]⟩, 0, 0, 0, 0, 0, ⟨#[]⟩, ⟨#[]⟩, [], 0) else
  if wi a0 13 = 8 then some (9, ⟨#[]⟩, ⟨#[]⟩, 0, 0, ⟨#[]⟩, 0, 0, 0, 0, 0, ⟨#[]⟩, ⟨#[]⟩, [], 0) else
  if wi a0 13 = 9 then some (10, wb3 (wi a3 3), ⟨#[]⟩, 0, 0, ⟨#[]⟩, 0, 0, 0, 0, 0, ⟨#[]⟩, ⟨#[]⟩, [], 0) else
  if wi a0 13 = 10 then some (11, nm3 (wi a3 3), ⟨#[]⟩, 0, 0, ⟨#[]⟩, 0, 0, 0, 0, 0, ⟨#[]⟩, ⟨#[]⟩, [], 0) else
  if wi a0 13 = 11 then (damperref1_Rev.f k (wb3 (wi a3 3)) (1 + wi a1 4)).bind fun r => some (12, r, ⟨#[]⟩, 0, 0, ⟨#[]⟩, 0, 0, 0, 0, 0, ⟨#[]⟩, ⟨#[]⟩, [], 0) else
  if wi a0 13 = 12 then (damperref1_Rev.f k (wb3 (wi a3 3)) (1 + wi a1 4)).bind fun r => some (13, r, ⟨#[]⟩, 0, 0, ⟨#[]⟩, 0, 0, 0, 0, 0, ⟨#[]⟩, ⟨#[]⟩, [], 0) else
  none
theorem damperlaw3_Make.mono : ∀ a0 a1 a2 a3 a4_0 a4_1 a4_2 a4_3 a4_4 a4_5 l5 k, LeO (damperlaw3_Make.f k a0 a1 a2 a3 a4_0 a4_1 a4_2 a4_3 a4_4 a4_5 l5) (damperlaw3_Make.f (k + 1) a0 a1 a2 a3 a4_0 a4_1 a4_2 a4_3 a4_4 a4_5 l5) := by
  intro a0 a1 a2 a3 a4_0 a4_1 a4_2 a4_3 a4_4 a4_5 l5 k r h
  unfold damperlaw3_Make.f at h ⊢
  by_cases w0 : wi a0 13 = 0
  · rw [if_pos w0] at h ⊢
    exact h
  rw [if_neg w0] at h ⊢
  by_cases w1 : wi a0 13 = 1
  · rw [if_pos w1] at h ⊢
    obtain ⟨t, ht, h2⟩ := Option.bind_eq_some_iff.1 h
    exact Option.bind_eq_some_iff.2 ⟨t, damperlaw2_Route.mono _ _ _ _ _ ht, h2⟩
  rw [if_neg w1] at h ⊢
  by_cases w2 : wi a0 13 = 2
  · rw [if_pos w2] at h ⊢
    exact h
  rw [if_neg w2] at h ⊢
  by_cases w3 : wi a0 13 = 3
  · rw [if_pos w3] at h ⊢
    exact h
  rw [if_neg w3] at h ⊢
  by_cases w4 : wi a0 13 = 4
  · rw [if_pos w4] at h ⊢
    exact h
  rw [if_neg w4] at h ⊢
  by_cases w5 : wi a0 13 = 5
  · rw [if_pos w5] at h ⊢
    exact h
  rw [if_neg w5] at h ⊢
  by_cases w6 : wi a0 13 = 6
  · rw [if_pos w6] at h ⊢
    exact h
  rw [if_neg w6] at h ⊢
  by_cases w7 : wi a0 13 = 7
  · rw [if_pos w7] at h ⊢
    exact h
  rw [if_neg w7] at h ⊢
  by_cases w8 : wi a0 13 = 8
  · rw [if_pos w8] at h ⊢
    exact h
  rw [if_neg w8] at h ⊢
  by_cases w9 : wi a0 13 = 9
  · rw [if_pos w9] at h ⊢
    exact h
  rw [if_neg w9] at h ⊢
  by_cases w10 : wi a0 13 = 10
  · rw [if_pos w10] at h ⊢
    exact h
  rw [if_neg w10] at h ⊢
  by_cases w11 : wi a0 13 = 11
  · rw [if_pos w11] at h ⊢
    obtain ⟨t, ht, h2⟩ := Option.bind_eq_some_iff.1 h
    exact Option.bind_eq_some_iff.2 ⟨t, damperref1_Rev.mono _ _ _ _ ht, h2⟩
  rw [if_neg w11] at h ⊢
  by_cases w12 : wi a0 13 = 12
  · rw [if_pos w12] at h ⊢
    obtain ⟨t, ht, h2⟩ := Option.bind_eq_some_iff.1 h
    exact Option.bind_eq_some_iff.2 ⟨t, damperref1_Rev.mono _ _ _ _ ht, h2⟩
  rw [if_neg w12] at h ⊢
  exact h
set_option maxHeartbeats 8000000 in
set_option maxRecDepth 100000 in
theorem damperlaw3_Make.calls (k : Nat) (a0 : Int) (a1 : Int) (a2 : Int) (a3 : Int) (a4_0 : ByteArray) (a4_1 : Int) (a4_2 : Int) (a4_3 : Int) (a4_4 : Int) (a4_5 : Int) (A5 : Option Addr) (c5 : Nat) (l5 : List Int) (r1 : Int) (r2 : ByteArray) (r3 : ByteArray) (r4 : Int) (r5 : Int) (r6 : ByteArray) (r7 : Int) (r8 : Int) (r9 : Int) (r10 : Int) (r11 : Int) (r12 : ByteArray) (r13 : ByteArray) (r14 : List (S39)) (r15 : Int) (w : World) (hr5 : Kd.C (Kd.int .i64) w A5 l5.length l5) (hc5 : l5.length ≤ c5) (h : damperlaw3_Make.f k a0 a1 a2 a3 a4_0 a4_1 a4_2 a4_3 a4_4 a4_5 l5 = some (r1, r2, r3, r4, r5, r6, r7, r8, r9, r10, r11, r12, r13, r14, r15)) :
    Calls Tryd.prog 14 #[.int .i64 a0, .int .i64 a1, .int .i64 a2, .int .i64 a3, .agg #[.string a4_0, .int .i64 a4_1, .int .i64 a4_2, .int .i64 a4_3, .int .i64 a4_4, .int .i64 a4_5], .slice A5 l5.length c5] w fun e w' => ∃ v13_ : Value, e = .returned (.agg #[.int .i64 r1, .string r2, .string r3, .int .i64 r4, .int .i64 r5, .string r6, .int .i64 r7, .int .i64 r8, .int .i64 r9, .int .i64 r10, .int .i64 r11, .string r12, .string r13, v13_, .int .i64 r15]) ∧ Kd.R k39 39 w' w.heap.size (fun _ => True) v13_ r14 ∧ Below w.heap.size w w' := by
  unfold damperlaw3_Make.f at h
  by_cases w0 : wi a0 13 = 0
  · rw [if_pos w0] at h
    obtain ⟨⟨q1, q2, q3, q4, q5, q6⟩, hq, h⟩ := Option.bind_eq_some_iff.1 h
    simp only [Option.some.injEq, Prod.mk.injEq] at h
    obtain ⟨rfl, rfl, rfl, rfl, rfl, rfl, rfl, rfl, rfl, rfl, rfl, rfl, rfl, rfl, rfl⟩ := h
    refine (mk_config a0 a1 a2 a3 a4_0 a4_1 a4_2 a4_3 a4_4 a4_5 A5 c5 l5.length w q1 q2 q3 q4 q5 q6 w0 hq).mono ?_
    rintro e w' ⟨rfl, hb⟩
    exact ⟨_, rfl, Kd.R_nil _ _ _ _ _, hb⟩
  rw [if_neg w0] at h
  by_cases w1 : wi a0 13 = 1
  · rw [if_pos w1] at h
    obtain ⟨⟨q1, q2, q3, q4⟩, hq, h⟩ := Option.bind_eq_some_iff.1 h
    simp only [Option.some.injEq, Prod.mk.injEq] at h
    obtain ⟨rfl, rfl, rfl, rfl, rfl, rfl, rfl, rfl, rfl, rfl, rfl, rfl, rfl, rfl, rfl⟩ := h
    exact mk_route a0 a1 a2 a3 a4_0 a4_1 a4_2 a4_3 a4_4 a4_5 A5 c5 0 w k l5 q1 q2 q3 q4 hr5 hc5 w1 hq
  rw [if_neg w1] at h
  by_cases w2 : wi a0 13 = 2
  · rw [if_pos w2] at h
    simp only [Option.some.injEq, Prod.mk.injEq] at h
    obtain ⟨rfl, rfl, rfl, rfl, rfl, rfl, rfl, rfl, rfl, rfl, rfl, rfl, rfl, rfl, rfl⟩ := h
    refine (mk_drop a0 a1 a2 a3 a4_0 a4_1 a4_2 a4_3 a4_4 a4_5 A5 c5 l5.length w w2).mono ?_
    rintro e w' ⟨rfl, hb⟩
    exact ⟨_, rfl, Kd.R_nil _ _ _ _ _, hb⟩
  rw [if_neg w2] at h
  by_cases w3 : wi a0 13 = 3
  · rw [if_pos w3] at h
    simp only [Option.some.injEq, Prod.mk.injEq] at h
    obtain ⟨rfl, rfl, rfl, rfl, rfl, rfl, rfl, rfl, rfl, rfl, rfl, rfl, rfl, rfl, rfl⟩ := h
    refine (mk_arrive a0 a1 a2 a3 a4_0 a4_1 a4_2 a4_3 a4_4 a4_5 A5 c5 l5.length w w3).mono ?_
    rintro e w' ⟨rfl, hb⟩
    exact ⟨_, rfl, Kd.R_nil _ _ _ _ _, hb⟩
  rw [if_neg w3] at h
  by_cases w4 : wi a0 13 = 4
  · rw [if_pos w4] at h
    simp only [Option.some.injEq, Prod.mk.injEq] at h
    obtain ⟨rfl, rfl, rfl, rfl, rfl, rfl, rfl, rfl, rfl, rfl, rfl, rfl, rfl, rfl, rfl⟩ := h
    refine (mk_num5 a0 a1 a2 a3 a4_0 a4_1 a4_2 a4_3 a4_4 a4_5 A5 c5 l5.length w w4).mono ?_
    rintro e w' ⟨rfl, hb⟩
    exact ⟨_, rfl, Kd.R_nil _ _ _ _ _, hb⟩
  rw [if_neg w4] at h
  by_cases w5 : wi a0 13 = 5
  · rw [if_pos w5] at h
    simp only [Option.some.injEq, Prod.mk.injEq] at h
    obtain ⟨rfl, rfl, rfl, rfl, rfl, rfl, rfl, rfl, rfl, rfl, rfl, rfl, rfl, rfl, rfl⟩ := h
    refine (mk_num6 a0 a1 a2 a3 a4_0 a4_1 a4_2 a4_3 a4_4 a4_5 A5 c5 l5.length w w5).mono ?_
    rintro e w' ⟨rfl, hb⟩
    exact ⟨_, rfl, Kd.R_nil _ _ _ _ _, hb⟩
  rw [if_neg w5] at h
  by_cases w6 : wi a0 13 = 6
  · rw [if_pos w6] at h
    simp only [Option.some.injEq, Prod.mk.injEq] at h
    obtain ⟨rfl, rfl, rfl, rfl, rfl, rfl, rfl, rfl, rfl, rfl, rfl, rfl, rfl, rfl, rfl⟩ := h
    refine (mk_num7 a0 a1 a2 a3 a4_0 a4_1 a4_2 a4_3 a4_4 a4_5 A5 c5 l5.length w w6).mono ?_
    rintro e w' ⟨rfl, hb⟩
    exact ⟨_, rfl, Kd.R_nil _ _ _ _ _, hb⟩
  rw [if_neg w6] at h
  by_cases w7 : wi a0 13 = 7
  · rw [if_pos w7] at h
    simp only [Option.some.injEq, Prod.mk.injEq] at h
    obtain ⟨rfl, rfl, rfl, rfl, rfl, rfl, rfl, rfl, rfl, rfl, rfl, rfl, rfl, rfl, rfl⟩ := h
    refine (mk_num8 a0 a1 a2 a3 a4_0 a4_1 a4_2 a4_3 a4_4 a4_5 A5 c5 l5.length w w7).mono ?_
    rintro e w' ⟨rfl, hb⟩
    exact ⟨_, rfl, Kd.R_nil _ _ _ _ _, hb⟩
  rw [if_neg w7] at h
  by_cases w8 : wi a0 13 = 8
  · rw [if_pos w8] at h
    simp only [Option.some.injEq, Prod.mk.injEq] at h
    obtain ⟨rfl, rfl, rfl, rfl, rfl, rfl, rfl, rfl, rfl, rfl, rfl, rfl, rfl, rfl, rfl⟩ := h
    refine (mk_tick a0 a1 a2 a3 a4_0 a4_1 a4_2 a4_3 a4_4 a4_5 A5 c5 l5.length w w8).mono ?_
    rintro e w' ⟨rfl, hb⟩
    exact ⟨_, rfl, Kd.R_nil _ _ _ _ _, hb⟩
  rw [if_neg w8] at h
  by_cases w9 : wi a0 13 = 9
  · rw [if_pos w9] at h
    simp only [Option.some.injEq, Prod.mk.injEq] at h
    obtain ⟨rfl, rfl, rfl, rfl, rfl, rfl, rfl, rfl, rfl, rfl, rfl, rfl, rfl, rfl, rfl⟩ := h
    obtain ⟨x, hx⟩ : ∃ x, wi a3 3 = x := ⟨_, rfl⟩
    have bx := wi_bd hx (by decide) (by decide)
    rw [hx]
    rcases (show x = 0 ∨ x = 1 ∨ x = 2 by omega) with rfl | rfl | rfl
    · refine (mk_stamp0 a0 a1 a2 a3 a4_0 a4_1 a4_2 a4_3 a4_4 a4_5 A5 c5 l5.length w w9 hx).mono ?_
      rintro e w' ⟨rfl, hb⟩
      exact ⟨_, rfl, Kd.R_nil _ _ _ _ _, hb⟩
    · refine (mk_stamp1 a0 a1 a2 a3 a4_0 a4_1 a4_2 a4_3 a4_4 a4_5 A5 c5 l5.length w w9 hx).mono ?_
      rintro e w' ⟨rfl, hb⟩
      exact ⟨_, rfl, Kd.R_nil _ _ _ _ _, hb⟩
    · refine (mk_stamp2 a0 a1 a2 a3 a4_0 a4_1 a4_2 a4_3 a4_4 a4_5 A5 c5 l5.length w w9 hx).mono ?_
      rintro e w' ⟨rfl, hb⟩
      exact ⟨_, rfl, Kd.R_nil _ _ _ _ _, hb⟩
  rw [if_neg w9] at h
  by_cases w10 : wi a0 13 = 10
  · rw [if_pos w10] at h
    simp only [Option.some.injEq, Prod.mk.injEq] at h
    obtain ⟨rfl, rfl, rfl, rfl, rfl, rfl, rfl, rfl, rfl, rfl, rfl, rfl, rfl, rfl, rfl⟩ := h
    obtain ⟨x, hx⟩ : ∃ x, wi a3 3 = x := ⟨_, rfl⟩
    have bx := wi_bd hx (by decide) (by decide)
    rw [hx]
    rcases (show x = 0 ∨ x = 1 ∨ x = 2 by omega) with rfl | rfl | rfl
    · refine (mk_lead0 a0 a1 a2 a3 a4_0 a4_1 a4_2 a4_3 a4_4 a4_5 A5 c5 l5.length w w10 hx).mono ?_
      rintro e w' ⟨rfl, hb⟩
      exact ⟨_, rfl, Kd.R_nil _ _ _ _ _, hb⟩
    · refine (mk_lead1 a0 a1 a2 a3 a4_0 a4_1 a4_2 a4_3 a4_4 a4_5 A5 c5 l5.length w w10 hx).mono ?_
      rintro e w' ⟨rfl, hb⟩
      exact ⟨_, rfl, Kd.R_nil _ _ _ _ _, hb⟩
    · refine (mk_lead2 a0 a1 a2 a3 a4_0 a4_1 a4_2 a4_3 a4_4 a4_5 A5 c5 l5.length w w10 hx).mono ?_
      rintro e w' ⟨rfl, hb⟩
      exact ⟨_, rfl, Kd.R_nil _ _ _ _ _, hb⟩
  rw [if_neg w10] at h
  by_cases w11 : wi a0 13 = 11
  · rw [if_pos w11] at h
    obtain ⟨q, hq, h⟩ := Option.bind_eq_some_iff.1 h
    simp only [Option.some.injEq, Prod.mk.injEq] at h
    obtain ⟨rfl, rfl, rfl, rfl, rfl, rfl, rfl, rfl, rfl, rfl, rfl, rfl, rfl, rfl, rfl⟩ := h
    refine (mk_turn12 a0 a1 a2 a3 a4_0 a4_1 a4_2 a4_3 a4_4 a4_5 A5 c5 l5.length w k q w11 hq).mono ?_
    rintro e w' ⟨rfl, hb⟩
    exact ⟨_, rfl, Kd.R_nil _ _ _ _ _, hb⟩
  rw [if_neg w11] at h
  by_cases w12 : wi a0 13 = 12
  · rw [if_pos w12] at h
    obtain ⟨q, hq, h⟩ := Option.bind_eq_some_iff.1 h
    simp only [Option.some.injEq, Prod.mk.injEq] at h
    obtain ⟨rfl, rfl, rfl, rfl, rfl, rfl, rfl, rfl, rfl, rfl, rfl, rfl, rfl, rfl, rfl⟩ := h
    refine (mk_turn13 a0 a1 a2 a3 a4_0 a4_1 a4_2 a4_3 a4_4 a4_5 A5 c5 l5.length w k q w12 hq).mono ?_
    rintro e w' ⟨rfl, hb⟩
    exact ⟨_, rfl, Kd.R_nil _ _ _ _ _, hb⟩
  rw [if_neg w12] at h
  cases h
end

section
/-! ### damperlaw3_EventZeros: function 8 -/
def ezBody (k : Nat) (j kd : Int) (nm tg : ByteArray) (n dr : Int) (c0 : ByteArray) (c1 c2 c3 c4 c5 : Int) (rn rc : ByteArray) (ts : List S39) (ro : Int) : Option Bool :=
  if j = 0 then (if kd = 3 ∨ kd = 4 then (event_Check.f k kd nm tg n dr c0 c1 c2 c3 c4 c5 rn rc ts ro).bind fun t => some (t == 0) else (event_Check.f k kd nm tg n (wrap64 (dr + 1)) c0 c1 c2 c3 c4 c5 rn rc ts ro).bind fun t => some (t == 2)) else
  if j = 1 then (if kd = 4 then (event_Check.f k kd nm ⟨#[116]⟩ n dr c0 c1 c2 c3 c4 c5 rn rc ts ro).bind fun t => some (t == 0) else (event_Check.f k kd nm ⟨#[116]⟩ n dr c0 c1 c2 c3 c4 c5 rn rc ts ro).bind fun t => some (t == 2)) else
  if j = 2 then (if kd = 1 then (event_Check.f k kd nm tg n dr c0 1 c2 c3 c4 c5 rn rc ts ro).bind fun t => some (t == 0) else (event_Check.f k kd nm tg n dr c0 1 c2 c3 c4 c5 rn rc ts ro).bind fun t => some (t == 2)) else
  if j = 3 then (if kd = 2 then (event_Check.f k kd nm tg n dr c0 c1 c2 c3 c4 c5 rn rc ts 5).bind fun t => some (t == 0) else (event_Check.f k kd nm tg n dr c0 c1 c2 c3 c4 c5 rn rc ts 5).bind fun t => some (t == 2)) else
  if j = 4 then (if kd ≤ 8 then (event_Check.f k kd nm tg 1 dr c0 c1 c2 c3 c4 c5 rn rc ts ro).bind fun t => some (t == 0) else (event_Check.f k kd nm tg 1 dr c0 c1 c2 c3 c4 c5 rn rc ts ro).bind fun t => some (t == 2)) else
  none
def damperlaw3_EventZeros.f (k : Nat) (a0 : Int) (a1 : Int) (a2 : Int) (a3 : Int) (a4_0 : ByteArray) (a4_1 : Int) (a4_2 : Int) (a4_3 : Int) (a4_4 : Int) (a4_5 : Int) (l5 : List Int) (a6 : Int) : Option Bool :=
  if damperlaw3_known.f = some true then (damperlaw3_Make.f k a0 a1 a2 a3 a4_0 a4_1 a4_2 a4_3 a4_4 a4_5 l5).bind fun e => ezBody k (wi a6 5) e.1 e.2.1 e.2.2.1 e.2.2.2.1 e.2.2.2.2.1 e.2.2.2.2.2.1 e.2.2.2.2.2.2.1 e.2.2.2.2.2.2.2.1 e.2.2.2.2.2.2.2.2.1 e.2.2.2.2.2.2.2.2.2.1 e.2.2.2.2.2.2.2.2.2.2.1 e.2.2.2.2.2.2.2.2.2.2.2.1 e.2.2.2.2.2.2.2.2.2.2.2.2.1 e.2.2.2.2.2.2.2.2.2.2.2.2.2.1 e.2.2.2.2.2.2.2.2.2.2.2.2.2.2 else none
set_option maxHeartbeats 8000000 in
set_option maxRecDepth 100000 in
theorem ez0a (k : Nat) (a0 : Int) (a1 : Int) (a2 : Int) (a3 : Int) (a4_0 : ByteArray) (a4_1 : Int) (a4_2 : Int) (a4_3 : Int) (a4_4 : Int) (a4_5 : Int) (A5 : Option Addr) (c5_ : Nat) (l5 : List Int) (a6 : Int) (kd : Int) (nm tg : ByteArray) (n dr : Int) (c0 : ByteArray) (c1 c2 c3 c4 c5 : Int) (rn rc : ByteArray) (ts : List S39) (ro : Int) (w : World) (hLd_ : Aside0 (LaidW w)) (hr5 : Kd.C (Kd.int .i64) w A5 l5.length l5) (hc5 : l5.length ≤ c5_)
    (hm : damperlaw3_Make.f k a0 a1 a2 a3 a4_0 a4_1 a4_2 a4_3 a4_4 a4_5 l5 = some (kd, nm, tg, n, dr, c0, c1, c2, c3, c4, c5, rn, rc, ts, ro)) (hj : wi a6 5 = 0) (hk : kd = 3) (hck : event_Check.f k kd nm tg n dr c0 c1 c2 c3 c4 c5 rn rc ts ro = some 0) :
    Calls Tryd.prog 8 #[.int .i64 a0, .int .i64 a1, .int .i64 a2, .int .i64 a3, .agg #[.string a4_0, .int .i64 a4_1, .int .i64 a4_2, .int .i64 a4_3, .int .i64 a4_4, .int .i64 a4_5], .slice A5 l5.length c5_, .int .i64 a6] w fun e w' => e = .returned (.bool true) ∧ Below w.heap.size w w' := by
  have t3 : (kd == 3) = true := beq_iff_eq.2 (by omega)
  clear hk
  have HM := Aside0.mk hm
  have HK := Aside0.mk hck
  have HR5 := Aside0.mk hr5
  have HC5 := Aside0.mk hc5
  clear hm hck hr5 hc5
  go_enter Tryd.func8, Tryd.ntmps8
  go_wp2_with fail
  refine (damperlaw3_known.calls true _ ⟨hLd_.out.below (below_alloc (Below.refl _ _) _)⟩ rfl).mono ?_
  rintro e w1 ⟨rfl, hb1⟩
  have HB1 := Aside0.mk (below_step (below_alloc (Below.refl w.heap.size w) _) hb1)
  have hbox : w1.heap[w.heap.size]? = some (.cells #[.string a4_0, .int .i64 a4_1, .int .i64 a4_2, .int .i64 a4_3, .int .i64 a4_4, .int .i64 a4_5] 23 (0, 0)) := blk_below (blk_new _ _) hb1
  clear hb1
  have y0 : w1.cell? ⟨w.heap.size, 0, none⟩ = some (.string a4_0) := (blk_cell hbox 0).trans rfl
  have y1 : w1.cell? ⟨w.heap.size, 1, none⟩ = some (.int .i64 a4_1) := (blk_cell hbox 1).trans rfl
  have y2 : w1.cell? ⟨w.heap.size, 2, none⟩ = some (.int .i64 a4_2) := (blk_cell hbox 2).trans rfl
  have y3 : w1.cell? ⟨w.heap.size, 3, none⟩ = some (.int .i64 a4_3) := (blk_cell hbox 3).trans rfl
  have y4 : w1.cell? ⟨w.heap.size, 4, none⟩ = some (.int .i64 a4_4) := (blk_cell hbox 4).trans rfl
  have y5 : w1.cell? ⟨w.heap.size, 5, none⟩ = some (.int .i64 a4_5) := (blk_cell hbox 5).trans rfl
  clear hbox
  go_wp2_with fail
  refine (damperlaw3_Make.calls k a0 a1 a2 a3 a4_0 a4_1 a4_2 a4_3 a4_4 a4_5 A5 c5_ l5 kd nm tg n dr c0 c1 c2 c3 c4 c5 rn rc ts ro _ (Kd.C_below HR5.out HB1.out) HC5.out HM.out).mono ?_
  rintro e w2 ⟨v13, rfl, hR, hb2⟩
  obtain ⟨Ao, co, rfl⟩ := Kd.R_slice hR
  obtain ⟨_, hco, hC⟩ := Kd.R_reads' hR
  have HCO := Aside0.mk hco
  have HC := Aside0.mk hC
  have HB2 := Aside0.mk (below_step HB1.out hb2)
  clear hR hb2 hco hC y0 y1 y2 y3 y4 y5
  go_wp2_with fail
  refine (damperlaw3_within.keep a6 5 hj (by decide) _).mono ?_
  rintro e w3 ⟨rfl, rfl⟩
  go_wp2_with fail
  generalize hW : World.alloc (World.alloc w2 _) _ = W5
  have hB5 : Below w2.heap.size w2 W5 := by
    rw [← hW]
    exact below_alloc (below_alloc (Below.refl _ _) _) _
  clear hW
  have HB5 := Aside0.mk (below_step HB2.out hB5)
  have HC5_ := Aside0.mk (Kd.C_below HC.out hB5)
  clear hB5 HC HB2
  have hfin := event_Check.calls k kd nm tg n dr c0 c1 c2 c3 c4 c5 rn rc Ao co ts ro 0 W5 ⟨hLd_.out.below HB5.out⟩ HC5_.out HCO.out HK.out
  clear HK HC5_ HCO
  with_reducible refine hfin.mono ?_
  clear hfin
  rintro e w4 ⟨rfl, hb4⟩
  have HB4 := Aside0.mk (below_step HB5.out hb4)
  clear hb4
  go_wp2_with fail
  go_ret
  exact ⟨rfl, HB4.out⟩
set_option maxHeartbeats 8000000 in
set_option maxRecDepth 100000 in
theorem ez0b (k : Nat) (a0 : Int) (a1 : Int) (a2 : Int) (a3 : Int) (a4_0 : ByteArray) (a4_1 : Int) (a4_2 : Int) (a4_3 : Int) (a4_4 : Int) (a4_5 : Int) (A5 : Option Addr) (c5_ : Nat) (l5 : List Int) (a6 : Int) (kd : Int) (nm tg : ByteArray) (n dr : Int) (c0 : ByteArray) (c1 c2 c3 c4 c5 : Int) (rn rc : ByteArray) (ts : List S39) (ro : Int) (w : World) (hLd_ : Aside0 (LaidW w)) (hr5 : Kd.C (Kd.int .i64) w A5 l5.length l5) (hc5 : l5.length ≤ c5_)
    (hm : damperlaw3_Make.f k a0 a1 a2 a3 a4_0 a4_1 a4_2 a4_3 a4_4 a4_5 l5 = some (kd, nm, tg, n, dr, c0, c1, c2, c3, c4, c5, rn, rc, ts, ro)) (hj : wi a6 5 = 0) (hk : kd = 4) (hck : event_Check.f k kd nm tg n dr c0 c1 c2 c3 c4 c5 rn rc ts ro = some 0) :
    Calls Tryd.prog 8 #[.int .i64 a0, .int .i64 a1, .int .i64 a2, .int .i64 a3, .agg #[.string a4_0, .int .i64 a4_1, .int .i64 a4_2, .int .i64 a4_3, .int .i64 a4_4, .int .i64 a4_5], .slice A5 l5.length c5_, .int .i64 a6] w fun e w' => e = .returned (.bool true) ∧ Below w.heap.size w w' := by
  have t3 : (kd == 3) = false := beq_eq_false_iff_ne.2 (by omega)
  have t4 : (kd == 4) = true := beq_iff_eq.2 (by omega)
  clear hk
  have HM := Aside0.mk hm
  have HK := Aside0.mk hck
  have HR5 := Aside0.mk hr5
  have HC5 := Aside0.mk hc5
  clear hm hck hr5 hc5
  go_enter Tryd.func8, Tryd.ntmps8
  go_wp2_with fail
  refine (damperlaw3_known.calls true _ ⟨hLd_.out.below (below_alloc (Below.refl _ _) _)⟩ rfl).mono ?_
  rintro e w1 ⟨rfl, hb1⟩
  have HB1 := Aside0.mk (below_step (below_alloc (Below.refl w.heap.size w) _) hb1)
  have hbox : w1.heap[w.heap.size]? = some (.cells #[.string a4_0, .int .i64 a4_1, .int .i64 a4_2, .int .i64 a4_3, .int .i64 a4_4, .int .i64 a4_5] 23 (0, 0)) := blk_below (blk_new _ _) hb1
  clear hb1
  have y0 : w1.cell? ⟨w.heap.size, 0, none⟩ = some (.string a4_0) := (blk_cell hbox 0).trans rfl
  have y1 : w1.cell? ⟨w.heap.size, 1, none⟩ = some (.int .i64 a4_1) := (blk_cell hbox 1).trans rfl
  have y2 : w1.cell? ⟨w.heap.size, 2, none⟩ = some (.int .i64 a4_2) := (blk_cell hbox 2).trans rfl
  have y3 : w1.cell? ⟨w.heap.size, 3, none⟩ = some (.int .i64 a4_3) := (blk_cell hbox 3).trans rfl
  have y4 : w1.cell? ⟨w.heap.size, 4, none⟩ = some (.int .i64 a4_4) := (blk_cell hbox 4).trans rfl
  have y5 : w1.cell? ⟨w.heap.size, 5, none⟩ = some (.int .i64 a4_5) := (blk_cell hbox 5).trans rfl
  clear hbox
  go_wp2_with fail
  refine (damperlaw3_Make.calls k a0 a1 a2 a3 a4_0 a4_1 a4_2 a4_3 a4_4 a4_5 A5 c5_ l5 kd nm tg n dr c0 c1 c2 c3 c4 c5 rn rc ts ro _ (Kd.C_below HR5.out HB1.out) HC5.out HM.out).mono ?_
  rintro e w2 ⟨v13, rfl, hR, hb2⟩
  obtain ⟨Ao, co, rfl⟩ := Kd.R_slice hR
  obtain ⟨_, hco, hC⟩ := Kd.R_reads' hR
  have HCO := Aside0.mk hco
  have HC := Aside0.mk hC
  have HB2 := Aside0.mk (below_step HB1.out hb2)
  clear hR hb2 hco hC y0 y1 y2 y3 y4 y5
  go_wp2_with fail
  refine (damperlaw3_within.keep a6 5 hj (by decide) _).mono ?_
  rintro e w3 ⟨rfl, rfl⟩
  go_wp2_with fail
  generalize hW : World.alloc (World.alloc w2 _) _ = W5
  have hB5 : Below w2.heap.size w2 W5 := by
    rw [← hW]
    exact below_alloc (below_alloc (Below.refl _ _) _) _
  clear hW
  have HB5 := Aside0.mk (below_step HB2.out hB5)
  have HC5_ := Aside0.mk (Kd.C_below HC.out hB5)
  clear hB5 HC HB2
  have hfin := event_Check.calls k kd nm tg n dr c0 c1 c2 c3 c4 c5 rn rc Ao co ts ro 0 W5 ⟨hLd_.out.below HB5.out⟩ HC5_.out HCO.out HK.out
  clear HK HC5_ HCO
  with_reducible refine hfin.mono ?_
  clear hfin
  rintro e w4 ⟨rfl, hb4⟩
  have HB4 := Aside0.mk (below_step HB5.out hb4)
  clear hb4
  go_wp2_with fail
  go_ret
  exact ⟨rfl, HB4.out⟩
set_option maxHeartbeats 8000000 in
set_option maxRecDepth 100000 in
theorem ez0c (k : Nat) (a0 : Int) (a1 : Int) (a2 : Int) (a3 : Int) (a4_0 : ByteArray) (a4_1 : Int) (a4_2 : Int) (a4_3 : Int) (a4_4 : Int) (a4_5 : Int) (A5 : Option Addr) (c5_ : Nat) (l5 : List Int) (a6 : Int) (kd : Int) (nm tg : ByteArray) (n dr : Int) (c0 : ByteArray) (c1 c2 c3 c4 c5 : Int) (rn rc : ByteArray) (ts : List S39) (ro : Int) (w : World) (hLd_ : Aside0 (LaidW w)) (hr5 : Kd.C (Kd.int .i64) w A5 l5.length l5) (hc5 : l5.length ≤ c5_)
    (hm : damperlaw3_Make.f k a0 a1 a2 a3 a4_0 a4_1 a4_2 a4_3 a4_4 a4_5 l5 = some (kd, nm, tg, n, dr, c0, c1, c2, c3, c4, c5, rn, rc, ts, ro)) (hj : wi a6 5 = 0) (hk : ¬ (kd = 3 ∨ kd = 4)) (hck : event_Check.f k kd nm tg n (wrap64 (dr + 1)) c0 c1 c2 c3 c4 c5 rn rc ts ro = some 2) :
    Calls Tryd.prog 8 #[.int .i64 a0, .int .i64 a1, .int .i64 a2, .int .i64 a3, .agg #[.string a4_0, .int .i64 a4_1, .int .i64 a4_2, .int .i64 a4_3, .int .i64 a4_4, .int .i64 a4_5], .slice A5 l5.length c5_, .int .i64 a6] w fun e w' => e = .returned (.bool true) ∧ Below w.heap.size w w' := by
  have t3 : (kd == 3) = false := beq_eq_false_iff_ne.2 (by omega)
  have t4 : (kd == 4) = false := beq_eq_false_iff_ne.2 (by omega)
  clear hk
  have HM := Aside0.mk hm
  have HK := Aside0.mk hck
  have HR5 := Aside0.mk hr5
  have HC5 := Aside0.mk hc5
  clear hm hck hr5 hc5
  go_enter Tryd.func8, Tryd.ntmps8
  go_wp2_with fail
  refine (damperlaw3_known.calls true _ ⟨hLd_.out.below (below_alloc (Below.refl _ _) _)⟩ rfl).mono ?_
  rintro e w1 ⟨rfl, hb1⟩
  have HB1 := Aside0.mk (below_step (below_alloc (Below.refl w.heap.size w) _) hb1)
  have hbox : w1.heap[w.heap.size]? = some (.cells #[.string a4_0, .int .i64 a4_1, .int .i64 a4_2, .int .i64 a4_3, .int .i64 a4_4, .int .i64 a4_5] 23 (0, 0)) := blk_below (blk_new _ _) hb1
  clear hb1
  have y0 : w1.cell? ⟨w.heap.size, 0, none⟩ = some (.string a4_0) := (blk_cell hbox 0).trans rfl
  have y1 : w1.cell? ⟨w.heap.size, 1, none⟩ = some (.int .i64 a4_1) := (blk_cell hbox 1).trans rfl
  have y2 : w1.cell? ⟨w.heap.size, 2, none⟩ = some (.int .i64 a4_2) := (blk_cell hbox 2).trans rfl
  have y3 : w1.cell? ⟨w.heap.size, 3, none⟩ = some (.int .i64 a4_3) := (blk_cell hbox 3).trans rfl
  have y4 : w1.cell? ⟨w.heap.size, 4, none⟩ = some (.int .i64 a4_4) := (blk_cell hbox 4).trans rfl
  have y5 : w1.cell? ⟨w.heap.size, 5, none⟩ = some (.int .i64 a4_5) := (blk_cell hbox 5).trans rfl
  clear hbox
  go_wp2_with fail
  refine (damperlaw3_Make.calls k a0 a1 a2 a3 a4_0 a4_1 a4_2 a4_3 a4_4 a4_5 A5 c5_ l5 kd nm tg n dr c0 c1 c2 c3 c4 c5 rn rc ts ro _ (Kd.C_below HR5.out HB1.out) HC5.out HM.out).mono ?_
  rintro e w2 ⟨v13, rfl, hR, hb2⟩
  obtain ⟨Ao, co, rfl⟩ := Kd.R_slice hR
  obtain ⟨_, hco, hC⟩ := Kd.R_reads' hR
  have HCO := Aside0.mk hco
  have HC := Aside0.mk hC
  have HB2 := Aside0.mk (below_step HB1.out hb2)
  clear hR hb2 hco hC y0 y1 y2 y3 y4 y5
  go_wp2_with fail
  refine (damperlaw3_within.keep a6 5 hj (by decide) _).mono ?_
  rintro e w3 ⟨rfl, rfl⟩
  go_wp2_with fail
  generalize hW : World.alloc (World.alloc w2 _) _ = W5
  have hB5 : Below w2.heap.size w2 W5 := by
    rw [← hW]
    exact below_alloc (below_alloc (Below.refl _ _) _) _
  clear hW
  have HB5 := Aside0.mk (below_step HB2.out hB5)
  have HC5_ := Aside0.mk (Kd.C_below HC.out hB5)
  clear hB5 HC HB2
  have hfin := event_Check.calls k kd nm tg n (wrap64 (dr + 1)) c0 c1 c2 c3 c4 c5 rn rc Ao co ts ro 2 W5 ⟨hLd_.out.below HB5.out⟩ HC5_.out HCO.out HK.out
  clear HK HC5_ HCO
  with_reducible refine hfin.mono ?_
  clear hfin
  rintro e w4 ⟨rfl, hb4⟩
  have HB4 := Aside0.mk (below_step HB5.out hb4)
  clear hb4
  go_wp2_with fail
  go_ret
  exact ⟨rfl, HB4.out⟩
set_option maxHeartbeats 8000000 in
set_option maxRecDepth 100000 in
theorem ez1a (k : Nat) (a0 : Int) (a1 : Int) (a2 : Int) (a3 : Int) (a4_0 : ByteArray) (a4_1 : Int) (a4_2 : Int) (a4_3 : Int) (a4_4 : Int) (a4_5 : Int) (A5 : Option Addr) (c5_ : Nat) (l5 : List Int) (a6 : Int) (kd : Int) (nm tg : ByteArray) (n dr : Int) (c0 : ByteArray) (c1 c2 c3 c4 c5 : Int) (rn rc : ByteArray) (ts : List S39) (ro : Int) (w : World) (hLd_ : Aside0 (LaidW w)) (hr5 : Kd.C (Kd.int .i64) w A5 l5.length l5) (hc5 : l5.length ≤ c5_)
    (hm : damperlaw3_Make.f k a0 a1 a2 a3 a4_0 a4_1 a4_2 a4_3 a4_4 a4_5 l5 = some (kd, nm, tg, n, dr, c0, c1, c2, c3, c4, c5, rn, rc, ts, ro)) (hj : wi a6 5 = 1) (hk : kd = 4) (hck : event_Check.f k kd nm ⟨#[116]⟩ n dr c0 c1 c2 c3 c4 c5 rn rc ts ro = some 0) :
    Calls Tryd.prog 8 #[.int .i64 a0, .int .i64 a1, .int .i64 a2, .int .i64 a3, .agg #[.string a4_0, .int .i64 a4_1, .int .i64 a4_2, .int .i64 a4_3, .int .i64 a4_4, .int .i64 a4_5], .slice A5 l5.length c5_, .int .i64 a6] w fun e w' => e = .returned (.bool true) ∧ Below w.heap.size w w' := by
  have t4 : (kd == 4) = true := beq_iff_eq.2 (by omega)
  clear hk
  have HM := Aside0.mk hm
  have HK := Aside0.mk hck
  have HR5 := Aside0.mk hr5
  have HC5 := Aside0.mk hc5
  clear hm hck hr5 hc5
  go_enter Tryd.func8, Tryd.ntmps8
  go_wp2_with fail
  refine (damperlaw3_known.calls true _ ⟨hLd_.out.below (below_alloc (Below.refl _ _) _)⟩ rfl).mono ?_
  rintro e w1 ⟨rfl, hb1⟩
  have HB1 := Aside0.mk (below_step (below_alloc (Below.refl w.heap.size w) _) hb1)
  have hbox : w1.heap[w.heap.size]? = some (.cells #[.string a4_0, .int .i64 a4_1, .int .i64 a4_2, .int .i64 a4_3, .int .i64 a4_4, .int .i64 a4_5] 23 (0, 0)) := blk_below (blk_new _ _) hb1
  clear hb1
  have y0 : w1.cell? ⟨w.heap.size, 0, none⟩ = some (.string a4_0) := (blk_cell hbox 0).trans rfl
  have y1 : w1.cell? ⟨w.heap.size, 1, none⟩ = some (.int .i64 a4_1) := (blk_cell hbox 1).trans rfl
  have y2 : w1.cell? ⟨w.heap.size, 2, none⟩ = some (.int .i64 a4_2) := (blk_cell hbox 2).trans rfl
  have y3 : w1.cell? ⟨w.heap.size, 3, none⟩ = some (.int .i64 a4_3) := (blk_cell hbox 3).trans rfl
  have y4 : w1.cell? ⟨w.heap.size, 4, none⟩ = some (.int .i64 a4_4) := (blk_cell hbox 4).trans rfl
  have y5 : w1.cell? ⟨w.heap.size, 5, none⟩ = some (.int .i64 a4_5) := (blk_cell hbox 5).trans rfl
  clear hbox
  go_wp2_with fail
  refine (damperlaw3_Make.calls k a0 a1 a2 a3 a4_0 a4_1 a4_2 a4_3 a4_4 a4_5 A5 c5_ l5 kd nm tg n dr c0 c1 c2 c3 c4 c5 rn rc ts ro _ (Kd.C_below HR5.out HB1.out) HC5.out HM.out).mono ?_
  rintro e w2 ⟨v13, rfl, hR, hb2⟩
  obtain ⟨Ao, co, rfl⟩ := Kd.R_slice hR
  obtain ⟨_, hco, hC⟩ := Kd.R_reads' hR
  have HCO := Aside0.mk hco
  have HC := Aside0.mk hC
  have HB2 := Aside0.mk (below_step HB1.out hb2)
  clear hR hb2 hco hC y0 y1 y2 y3 y4 y5
  go_wp2_with fail
  refine (damperlaw3_within.keep a6 5 hj (by decide) _).mono ?_
  rintro e w3 ⟨rfl, rfl⟩
  go_wp2_with fail
  generalize hW : World.alloc (World.alloc w2 _) _ = W5
  have hB5 : Below w2.heap.size w2 W5 := by
    rw [← hW]
    exact below_alloc (below_alloc (Below.refl _ _) _) _
  clear hW
  have HB5 := Aside0.mk (below_step HB2.out hB5)
  have HC5_ := Aside0.mk (Kd.C_below HC.out hB5)
  clear hB5 HC HB2
  have hfin := event_Check.calls k kd nm ⟨#[116]⟩ n dr c0 c1 c2 c3 c4 c5 rn rc Ao co ts ro 0 W5 ⟨hLd_.out.below HB5.out⟩ HC5_.out HCO.out HK.out
  clear HK HC5_ HCO
  with_reducible refine hfin.mono ?_
  clear hfin
  rintro e w4 ⟨rfl, hb4⟩
  have HB4 := Aside0.mk (below_step HB5.out hb4)
  clear hb4
  go_wp2_with fail
  go_ret
  exact ⟨rfl, HB4.out⟩
set_option maxHeartbeats 8000000 in
set_option maxRecDepth 100000 in
theorem ez1c (k : Nat) (a0 : Int) (a1 : Int) (a2 : Int) (a3 : Int) (a4_0 : ByteArray) (a4_1 : Int) (a4_2 : Int) (a4_3 : Int) (a4_4 : Int) (a4_5 : Int) (A5 : Option Addr) (c5_ : Nat) (l5 : List Int) (a6 : Int) (kd : Int) (nm tg : ByteArray) (n dr : Int) (c0 : ByteArray) (c1 c2 c3 c4 c5 : Int) (rn rc : ByteArray) (ts : List S39) (ro : Int) (w : World) (hLd_ : Aside0 (LaidW w)) (hr5 : Kd.C (Kd.int .i64) w A5 l5.length l5) (hc5 : l5.length ≤ c5_)
    (hm : damperlaw3_Make.f k a0 a1 a2 a3 a4_0 a4_1 a4_2 a4_3 a4_4 a4_5 l5 = some (kd, nm, tg, n, dr, c0, c1, c2, c3, c4, c5, rn, rc, ts, ro)) (hj : wi a6 5 = 1) (hk : ¬ kd = 4) (hck : event_Check.f k kd nm ⟨#[116]⟩ n dr c0 c1 c2 c3 c4 c5 rn rc ts ro = some 2) :
    Calls Tryd.prog 8 #[.int .i64 a0, .int .i64 a1, .int .i64 a2, .int .i64 a3, .agg #[.string a4_0, .int .i64 a4_1, .int .i64 a4_2, .int .i64 a4_3, .int .i64 a4_4, .int .i64 a4_5], .slice A5 l5.length c5_, .int .i64 a6] w fun e w' => e = .returned (.bool true) ∧ Below w.heap.size w w' := by
  have t4 : (kd == 4) = false := beq_eq_false_iff_ne.2 (by omega)
  clear hk
  have HM := Aside0.mk hm
  have HK := Aside0.mk hck
  have HR5 := Aside0.mk hr5
  have HC5 := Aside0.mk hc5
  clear hm hck hr5 hc5
  go_enter Tryd.func8, Tryd.ntmps8
  go_wp2_with fail
  refine (damperlaw3_known.calls true _ ⟨hLd_.out.below (below_alloc (Below.refl _ _) _)⟩ rfl).mono ?_
  rintro e w1 ⟨rfl, hb1⟩
  have HB1 := Aside0.mk (below_step (below_alloc (Below.refl w.heap.size w) _) hb1)
  have hbox : w1.heap[w.heap.size]? = some (.cells #[.string a4_0, .int .i64 a4_1, .int .i64 a4_2, .int .i64 a4_3, .int .i64 a4_4, .int .i64 a4_5] 23 (0, 0)) := blk_below (blk_new _ _) hb1
  clear hb1
  have y0 : w1.cell? ⟨w.heap.size, 0, none⟩ = some (.string a4_0) := (blk_cell hbox 0).trans rfl
  have y1 : w1.cell? ⟨w.heap.size, 1, none⟩ = some (.int .i64 a4_1) := (blk_cell hbox 1).trans rfl
  have y2 : w1.cell? ⟨w.heap.size, 2, none⟩ = some (.int .i64 a4_2) := (blk_cell hbox 2).trans rfl
  have y3 : w1.cell? ⟨w.heap.size, 3, none⟩ = some (.int .i64 a4_3) := (blk_cell hbox 3).trans rfl
  have y4 : w1.cell? ⟨w.heap.size, 4, none⟩ = some (.int .i64 a4_4) := (blk_cell hbox 4).trans rfl
  have y5 : w1.cell? ⟨w.heap.size, 5, none⟩ = some (.int .i64 a4_5) := (blk_cell hbox 5).trans rfl
  clear hbox
  go_wp2_with fail
  refine (damperlaw3_Make.calls k a0 a1 a2 a3 a4_0 a4_1 a4_2 a4_3 a4_4 a4_5 A5 c5_ l5 kd nm tg n dr c0 c1 c2 c3 c4 c5 rn rc ts ro _ (Kd.C_below HR5.out HB1.out) HC5.out HM.out).mono ?_
  rintro e w2 ⟨v13, rfl, hR, hb2⟩
  obtain ⟨Ao, co, rfl⟩ := Kd.R_slice hR
  obtain ⟨_, hco, hC⟩ := Kd.R_reads' hR
  have HCO := Aside0.mk hco
  have HC := Aside0.mk hC
  have HB2 := Aside0.mk (below_step HB1.out hb2)
  clear hR hb2 hco hC y0 y1 y2 y3 y4 y5
  go_wp2_with fail
  refine (damperlaw3_within.keep a6 5 hj (by decide) _).mono ?_
  rintro e w3 ⟨rfl, rfl⟩
  go_wp2_with fail
  generalize hW : World.alloc (World.alloc w2 _) _ = W5
  have hB5 : Below w2.heap.size w2 W5 := by
    rw [← hW]
    exact below_alloc (below_alloc (Below.refl _ _) _) _
  clear hW
  have HB5 := Aside0.mk (below_step HB2.out hB5)
  have HC5_ := Aside0.mk (Kd.C_below HC.out hB5)
  clear hB5 HC HB2
  have hfin := event_Check.calls k kd nm ⟨#[116]⟩ n dr c0 c1 c2 c3 c4 c5 rn rc Ao co ts ro 2 W5 ⟨hLd_.out.below HB5.out⟩ HC5_.out HCO.out HK.out
  clear HK HC5_ HCO
  with_reducible refine hfin.mono ?_
  clear hfin
  rintro e w4 ⟨rfl, hb4⟩
  have HB4 := Aside0.mk (below_step HB5.out hb4)
  clear hb4
  go_wp2_with fail
  go_ret
  exact ⟨rfl, HB4.out⟩
set_option maxHeartbeats 8000000 in
set_option maxRecDepth 100000 in
theorem ez2a (k : Nat) (a0 : Int) (a1 : Int) (a2 : Int) (a3 : Int) (a4_0 : ByteArray) (a4_1 : Int) (a4_2 : Int) (a4_3 : Int) (a4_4 : Int) (a4_5 : Int) (A5 : Option Addr) (c5_ : Nat) (l5 : List Int) (a6 : Int) (kd : Int) (nm tg : ByteArray) (n dr : Int) (c0 : ByteArray) (c1 c2 c3 c4 c5 : Int) (rn rc : ByteArray) (ts : List S39) (ro : Int) (w : World) (hLd_ : Aside0 (LaidW w)) (hr5 : Kd.C (Kd.int .i64) w A5 l5.length l5) (hc5 : l5.length ≤ c5_)
    (hm : damperlaw3_Make.f k a0 a1 a2 a3 a4_0 a4_1 a4_2 a4_3 a4_4 a4_5 l5 = some (kd, nm, tg, n, dr, c0, c1, c2, c3, c4, c5, rn, rc, ts, ro)) (hj : wi a6 5 = 2) (hk : kd = 1) (hck : event_Check.f k kd nm tg n dr c0 1 c2 c3 c4 c5 rn rc ts ro = some 0) :
    Calls Tryd.prog 8 #[.int .i64 a0, .int .i64 a1, .int .i64 a2, .int .i64 a3, .agg #[.string a4_0, .int .i64 a4_1, .int .i64 a4_2, .int .i64 a4_3, .int .i64 a4_4, .int .i64 a4_5], .slice A5 l5.length c5_, .int .i64 a6] w fun e w' => e = .returned (.bool true) ∧ Below w.heap.size w w' := by
  have t1 : (kd == 1) = true := beq_iff_eq.2 (by omega)
  clear hk
  have HM := Aside0.mk hm
  have HK := Aside0.mk hck
  have HR5 := Aside0.mk hr5
  have HC5 := Aside0.mk hc5
  clear hm hck hr5 hc5
  go_enter Tryd.func8, Tryd.ntmps8
  go_wp2_with fail
  refine (damperlaw3_known.calls true _ ⟨hLd_.out.below (below_alloc (Below.refl _ _) _)⟩ rfl).mono ?_
  rintro e w1 ⟨rfl, hb1⟩
  have HB1 := Aside0.mk (below_step (below_alloc (Below.refl w.heap.size w) _) hb1)
  have hbox : w1.heap[w.heap.size]? = some (.cells #[.string a4_0, .int .i64 a4_1, .int .i64 a4_2, .int .i64 a4_3, .int .i64 a4_4, .int .i64 a4_5] 23 (0, 0)) := blk_below (blk_new _ _) hb1
  clear hb1
  have y0 : w1.cell? ⟨w.heap.size, 0, none⟩ = some (.string a4_0) := (blk_cell hbox 0).trans rfl
  have y1 : w1.cell? ⟨w.heap.size, 1, none⟩ = some (.int .i64 a4_1) := (blk_cell hbox 1).trans rfl
  have y2 : w1.cell? ⟨w.heap.size, 2, none⟩ = some (.int .i64 a4_2) := (blk_cell hbox 2).trans rfl
  have y3 : w1.cell? ⟨w.heap.size, 3, none⟩ = some (.int .i64 a4_3) := (blk_cell hbox 3).trans rfl
  have y4 : w1.cell? ⟨w.heap.size, 4, none⟩ = some (.int .i64 a4_4) := (blk_cell hbox 4).trans rfl
  have y5 : w1.cell? ⟨w.heap.size, 5, none⟩ = some (.int .i64 a4_5) := (blk_cell hbox 5).trans rfl
  clear hbox
  go_wp2_with fail
  refine (damperlaw3_Make.calls k a0 a1 a2 a3 a4_0 a4_1 a4_2 a4_3 a4_4 a4_5 A5 c5_ l5 kd nm tg n dr c0 c1 c2 c3 c4 c5 rn rc ts ro _ (Kd.C_below HR5.out HB1.out) HC5.out HM.out).mono ?_
  rintro e w2 ⟨v13, rfl, hR, hb2⟩
  obtain ⟨Ao, co, rfl⟩ := Kd.R_slice hR
  obtain ⟨_, hco, hC⟩ := Kd.R_reads' hR
  have HCO := Aside0.mk hco
  have HC := Aside0.mk hC
  have HB2 := Aside0.mk (below_step HB1.out hb2)
  clear hR hb2 hco hC y0 y1 y2 y3 y4 y5
  go_wp2_with fail
  refine (damperlaw3_within.keep a6 5 hj (by decide) _).mono ?_
  rintro e w3 ⟨rfl, rfl⟩
  go_wp2_with fail
  generalize hW : World.alloc (World.alloc w2 _) _ = W5
  have hB5 : Below w2.heap.size w2 W5 := by
    rw [← hW]
    exact below_alloc (below_alloc (Below.refl _ _) _) _
  clear hW
  have HB5 := Aside0.mk (below_step HB2.out hB5)
  have HC5_ := Aside0.mk (Kd.C_below HC.out hB5)
  clear hB5 HC HB2
  have hfin := event_Check.calls k kd nm tg n dr c0 1 c2 c3 c4 c5 rn rc Ao co ts ro 0 W5 ⟨hLd_.out.below HB5.out⟩ HC5_.out HCO.out HK.out
  clear HK HC5_ HCO
  with_reducible refine hfin.mono ?_
  clear hfin
  rintro e w4 ⟨rfl, hb4⟩
  have HB4 := Aside0.mk (below_step HB5.out hb4)
  clear hb4
  go_wp2_with fail
  go_ret
  exact ⟨rfl, HB4.out⟩
set_option maxHeartbeats 8000000 in
set_option maxRecDepth 100000 in
theorem ez2c (k : Nat) (a0 : Int) (a1 : Int) (a2 : Int) (a3 : Int) (a4_0 : ByteArray) (a4_1 : Int) (a4_2 : Int) (a4_3 : Int) (a4_4 : Int) (a4_5 : Int) (A5 : Option Addr) (c5_ : Nat) (l5 : List Int) (a6 : Int) (kd : Int) (nm tg : ByteArray) (n dr : Int) (c0 : ByteArray) (c1 c2 c3 c4 c5 : Int) (rn rc : ByteArray) (ts : List S39) (ro : Int) (w : World) (hLd_ : Aside0 (LaidW w)) (hr5 : Kd.C (Kd.int .i64) w A5 l5.length l5) (hc5 : l5.length ≤ c5_)
    (hm : damperlaw3_Make.f k a0 a1 a2 a3 a4_0 a4_1 a4_2 a4_3 a4_4 a4_5 l5 = some (kd, nm, tg, n, dr, c0, c1, c2, c3, c4, c5, rn, rc, ts, ro)) (hj : wi a6 5 = 2) (hk : ¬ kd = 1) (hck : event_Check.f k kd nm tg n dr c0 1 c2 c3 c4 c5 rn rc ts ro = some 2) :
    Calls Tryd.prog 8 #[.int .i64 a0, .int .i64 a1, .int .i64 a2, .int .i64 a3, .agg #[.string a4_0, .int .i64 a4_1, .int .i64 a4_2, .int .i64 a4_3, .int .i64 a4_4, .int .i64 a4_5], .slice A5 l5.length c5_, .int .i64 a6] w fun e w' => e = .returned (.bool true) ∧ Below w.heap.size w w' := by
  have t1 : (kd == 1) = false := beq_eq_false_iff_ne.2 (by omega)
  clear hk
  have HM := Aside0.mk hm
  have HK := Aside0.mk hck
  have HR5 := Aside0.mk hr5
  have HC5 := Aside0.mk hc5
  clear hm hck hr5 hc5
  go_enter Tryd.func8, Tryd.ntmps8
  go_wp2_with fail
  refine (damperlaw3_known.calls true _ ⟨hLd_.out.below (below_alloc (Below.refl _ _) _)⟩ rfl).mono ?_
  rintro e w1 ⟨rfl, hb1⟩
  have HB1 := Aside0.mk (below_step (below_alloc (Below.refl w.heap.size w) _) hb1)
  have hbox : w1.heap[w.heap.size]? = some (.cells #[.string a4_0, .int .i64 a4_1, .int .i64 a4_2, .int .i64 a4_3, .int .i64 a4_4, .int .i64 a4_5] 23 (0, 0)) := blk_below (blk_new _ _) hb1
  clear hb1
  have y0 : w1.cell? ⟨w.heap.size, 0, none⟩ = some (.string a4_0) := (blk_cell hbox 0).trans rfl
  have y1 : w1.cell? ⟨w.heap.size, 1, none⟩ = some (.int .i64 a4_1) := (blk_cell hbox 1).trans rfl
  have y2 : w1.cell? ⟨w.heap.size, 2, none⟩ = some (.int .i64 a4_2) := (blk_cell hbox 2).trans rfl
  have y3 : w1.cell? ⟨w.heap.size, 3, none⟩ = some (.int .i64 a4_3) := (blk_cell hbox 3).trans rfl
  have y4 : w1.cell? ⟨w.heap.size, 4, none⟩ = some (.int .i64 a4_4) := (blk_cell hbox 4).trans rfl
  have y5 : w1.cell? ⟨w.heap.size, 5, none⟩ = some (.int .i64 a4_5) := (blk_cell hbox 5).trans rfl
  clear hbox
  go_wp2_with fail
  refine (damperlaw3_Make.calls k a0 a1 a2 a3 a4_0 a4_1 a4_2 a4_3 a4_4 a4_5 A5 c5_ l5 kd nm tg n dr c0 c1 c2 c3 c4 c5 rn rc ts ro _ (Kd.C_below HR5.out HB1.out) HC5.out HM.out).mono ?_
  rintro e w2 ⟨v13, rfl, hR, hb2⟩
  obtain ⟨Ao, co, rfl⟩ := Kd.R_slice hR
  obtain ⟨_, hco, hC⟩ := Kd.R_reads' hR
  have HCO := Aside0.mk hco
  have HC := Aside0.mk hC
  have HB2 := Aside0.mk (below_step HB1.out hb2)
  clear hR hb2 hco hC y0 y1 y2 y3 y4 y5
  go_wp2_with fail
  refine (damperlaw3_within.keep a6 5 hj (by decide) _).mono ?_
  rintro e w3 ⟨rfl, rfl⟩
  go_wp2_with fail
  generalize hW : World.alloc (World.alloc w2 _) _ = W5
  have hB5 : Below w2.heap.size w2 W5 := by
    rw [← hW]
    exact below_alloc (below_alloc (Below.refl _ _) _) _
  clear hW
  have HB5 := Aside0.mk (below_step HB2.out hB5)
  have HC5_ := Aside0.mk (Kd.C_below HC.out hB5)
  clear hB5 HC HB2
  have hfin := event_Check.calls k kd nm tg n dr c0 1 c2 c3 c4 c5 rn rc Ao co ts ro 2 W5 ⟨hLd_.out.below HB5.out⟩ HC5_.out HCO.out HK.out
  clear HK HC5_ HCO
  with_reducible refine hfin.mono ?_
  clear hfin
  rintro e w4 ⟨rfl, hb4⟩
  have HB4 := Aside0.mk (below_step HB5.out hb4)
  clear hb4
  go_wp2_with fail
  go_ret
  exact ⟨rfl, HB4.out⟩
set_option maxHeartbeats 8000000 in
set_option maxRecDepth 100000 in
theorem ez3a (k : Nat) (a0 : Int) (a1 : Int) (a2 : Int) (a3 : Int) (a4_0 : ByteArray) (a4_1 : Int) (a4_2 : Int) (a4_3 : Int) (a4_4 : Int) (a4_5 : Int) (A5 : Option Addr) (c5_ : Nat) (l5 : List Int) (a6 : Int) (kd : Int) (nm tg : ByteArray) (n dr : Int) (c0 : ByteArray) (c1 c2 c3 c4 c5 : Int) (rn rc : ByteArray) (ts : List S39) (ro : Int) (w : World) (hLd_ : Aside0 (LaidW w)) (hr5 : Kd.C (Kd.int .i64) w A5 l5.length l5) (hc5 : l5.length ≤ c5_)
    (hm : damperlaw3_Make.f k a0 a1 a2 a3 a4_0 a4_1 a4_2 a4_3 a4_4 a4_5 l5 = some (kd, nm, tg, n, dr, c0, c1, c2, c3, c4, c5, rn, rc, ts, ro)) (hj : wi a6 5 = 3) (hk : kd = 2) (hck : event_Check.f k kd nm tg n dr c0 c1 c2 c3 c4 c5 rn rc ts 5 = some 0) :
    Calls Tryd.prog 8 #[.int .i64 a0, .int .i64 a1, .int .i64 a2, .int .i64 a3, .agg #[.string a4_0, .int .i64 a4_1, .int .i64 a4_2, .int .i64 a4_3, .int .i64 a4_4, .int .i64 a4_5], .slice A5 l5.length c5_, .int .i64 a6] w fun e w' => e = .returned (.bool true) ∧ Below w.heap.size w w' := by
  have t2 : (kd == 2) = true := beq_iff_eq.2 (by omega)
  clear hk
  have HM := Aside0.mk hm
  have HK := Aside0.mk hck
  have HR5 := Aside0.mk hr5
  have HC5 := Aside0.mk hc5
  clear hm hck hr5 hc5
  go_enter Tryd.func8, Tryd.ntmps8
  go_wp2_with fail
  refine (damperlaw3_known.calls true _ ⟨hLd_.out.below (below_alloc (Below.refl _ _) _)⟩ rfl).mono ?_
  rintro e w1 ⟨rfl, hb1⟩
  have HB1 := Aside0.mk (below_step (below_alloc (Below.refl w.heap.size w) _) hb1)
  have hbox : w1.heap[w.heap.size]? = some (.cells #[.string a4_0, .int .i64 a4_1, .int .i64 a4_2, .int .i64 a4_3, .int .i64 a4_4, .int .i64 a4_5] 23 (0, 0)) := blk_below (blk_new _ _) hb1
  clear hb1
  have y0 : w1.cell? ⟨w.heap.size, 0, none⟩ = some (.string a4_0) := (blk_cell hbox 0).trans rfl
  have y1 : w1.cell? ⟨w.heap.size, 1, none⟩ = some (.int .i64 a4_1) := (blk_cell hbox 1).trans rfl
  have y2 : w1.cell? ⟨w.heap.size, 2, none⟩ = some (.int .i64 a4_2) := (blk_cell hbox 2).trans rfl
  have y3 : w1.cell? ⟨w.heap.size, 3, none⟩ = some (.int .i64 a4_3) := (blk_cell hbox 3).trans rfl
  have y4 : w1.cell? ⟨w.heap.size, 4, none⟩ = some (.int .i64 a4_4) := (blk_cell hbox 4).trans rfl
  have y5 : w1.cell? ⟨w.heap.size, 5, none⟩ = some (.int .i64 a4_5) := (blk_cell hbox 5).trans rfl
  clear hbox
  go_wp2_with fail
  refine (damperlaw3_Make.calls k a0 a1 a2 a3 a4_0 a4_1 a4_2 a4_3 a4_4 a4_5 A5 c5_ l5 kd nm tg n dr c0 c1 c2 c3 c4 c5 rn rc ts ro _ (Kd.C_below HR5.out HB1.out) HC5.out HM.out).mono ?_
  rintro e w2 ⟨v13, rfl, hR, hb2⟩
  obtain ⟨Ao, co, rfl⟩ := Kd.R_slice hR
  obtain ⟨_, hco, hC⟩ := Kd.R_reads' hR
  have HCO := Aside0.mk hco
  have HC := Aside0.mk hC
  have HB2 := Aside0.mk (below_step HB1.out hb2)
  clear hR hb2 hco hC y0 y1 y2 y3 y4 y5
  go_wp2_with fail
  refine (damperlaw3_within.keep a6 5 hj (by decide) _).mono ?_
  rintro e w3 ⟨rfl, rfl⟩
  go_wp2_with fail
  generalize hW : World.alloc (World.alloc w2 _) _ = W5
  have hB5 : Below w2.heap.size w2 W5 := by
    rw [← hW]
    exact below_alloc (below_alloc (Below.refl _ _) _) _
  clear hW
  have HB5 := Aside0.mk (below_step HB2.out hB5)
  have HC5_ := Aside0.mk (Kd.C_below HC.out hB5)
  clear hB5 HC HB2
  have hfin := event_Check.calls k kd nm tg n dr c0 c1 c2 c3 c4 c5 rn rc Ao co ts 5 0 W5 ⟨hLd_.out.below HB5.out⟩ HC5_.out HCO.out HK.out
  clear HK HC5_ HCO
  with_reducible refine hfin.mono ?_
  clear hfin
  rintro e w4 ⟨rfl, hb4⟩
  have HB4 := Aside0.mk (below_step HB5.out hb4)
  clear hb4
  go_wp2_with fail
  go_ret
  exact ⟨rfl, HB4.out⟩
set_option maxHeartbeats 8000000 in
set_option maxRecDepth 100000 in
theorem ez3c (k : Nat) (a0 : Int) (a1 : Int) (a2 : Int) (a3 : Int) (a4_0 : ByteArray) (a4_1 : Int) (a4_2 : Int) (a4_3 : Int) (a4_4 : Int) (a4_5 : Int) (A5 : Option Addr) (c5_ : Nat) (l5 : List Int) (a6 : Int) (kd : Int) (nm tg : ByteArray) (n dr : Int) (c0 : ByteArray) (c1 c2 c3 c4 c5 : Int) (rn rc : ByteArray) (ts : List S39) (ro : Int) (w : World) (hLd_ : Aside0 (LaidW w)) (hr5 : Kd.C (Kd.int .i64) w A5 l5.length l5) (hc5 : l5.length ≤ c5_)
    (hm : damperlaw3_Make.f k a0 a1 a2 a3 a4_0 a4_1 a4_2 a4_3 a4_4 a4_5 l5 = some (kd, nm, tg, n, dr, c0, c1, c2, c3, c4, c5, rn, rc, ts, ro)) (hj : wi a6 5 = 3) (hk : ¬ kd = 2) (hck : event_Check.f k kd nm tg n dr c0 c1 c2 c3 c4 c5 rn rc ts 5 = some 2) :
    Calls Tryd.prog 8 #[.int .i64 a0, .int .i64 a1, .int .i64 a2, .int .i64 a3, .agg #[.string a4_0, .int .i64 a4_1, .int .i64 a4_2, .int .i64 a4_3, .int .i64 a4_4, .int .i64 a4_5], .slice A5 l5.length c5_, .int .i64 a6] w fun e w' => e = .returned (.bool true) ∧ Below w.heap.size w w' := by
  have t2 : (kd == 2) = false := beq_eq_false_iff_ne.2 (by omega)
  clear hk
  have HM := Aside0.mk hm
  have HK := Aside0.mk hck
  have HR5 := Aside0.mk hr5
  have HC5 := Aside0.mk hc5
  clear hm hck hr5 hc5
  go_enter Tryd.func8, Tryd.ntmps8
  go_wp2_with fail
  refine (damperlaw3_known.calls true _ ⟨hLd_.out.below (below_alloc (Below.refl _ _) _)⟩ rfl).mono ?_
  rintro e w1 ⟨rfl, hb1⟩
  have HB1 := Aside0.mk (below_step (below_alloc (Below.refl w.heap.size w) _) hb1)
  have hbox : w1.heap[w.heap.size]? = some (.cells #[.string a4_0, .int .i64 a4_1, .int .i64 a4_2, .int .i64 a4_3, .int .i64 a4_4, .int .i64 a4_5] 23 (0, 0)) := blk_below (blk_new _ _) hb1
  clear hb1
  have y0 : w1.cell? ⟨w.heap.size, 0, none⟩ = some (.string a4_0) := (blk_cell hbox 0).trans rfl
  have y1 : w1.cell? ⟨w.heap.size, 1, none⟩ = some (.int .i64 a4_1) := (blk_cell hbox 1).trans rfl
  have y2 : w1.cell? ⟨w.heap.size, 2, none⟩ = some (.int .i64 a4_2) := (blk_cell hbox 2).trans rfl
  have y3 : w1.cell? ⟨w.heap.size, 3, none⟩ = some (.int .i64 a4_3) := (blk_cell hbox 3).trans rfl
  have y4 : w1.cell? ⟨w.heap.size, 4, none⟩ = some (.int .i64 a4_4) := (blk_cell hbox 4).trans rfl
  have y5 : w1.cell? ⟨w.heap.size, 5, none⟩ = some (.int .i64 a4_5) := (blk_cell hbox 5).trans rfl
  clear hbox
  go_wp2_with fail
  refine (damperlaw3_Make.calls k a0 a1 a2 a3 a4_0 a4_1 a4_2 a4_3 a4_4 a4_5 A5 c5_ l5 kd nm tg n dr c0 c1 c2 c3 c4 c5 rn rc ts ro _ (Kd.C_below HR5.out HB1.out) HC5.out HM.out).mono ?_
  rintro e w2 ⟨v13, rfl, hR, hb2⟩
  obtain ⟨Ao, co, rfl⟩ := Kd.R_slice hR
  obtain ⟨_, hco, hC⟩ := Kd.R_reads' hR
  have HCO := Aside0.mk hco
  have HC := Aside0.mk hC
  have HB2 := Aside0.mk (below_step HB1.out hb2)
  clear hR hb2 hco hC y0 y1 y2 y3 y4 y5
  go_wp2_with fail
  refine (damperlaw3_within.keep a6 5 hj (by decide) _).mono ?_
  rintro e w3 ⟨rfl, rfl⟩
  go_wp2_with fail
  generalize hW : World.alloc (World.alloc w2 _) _ = W5
  have hB5 : Below w2.heap.size w2 W5 := by
    rw [← hW]
    exact below_alloc (below_alloc (Below.refl _ _) _) _
  clear hW
  have HB5 := Aside0.mk (below_step HB2.out hB5)
  have HC5_ := Aside0.mk (Kd.C_below HC.out hB5)
  clear hB5 HC HB2
  have hfin := event_Check.calls k kd nm tg n dr c0 c1 c2 c3 c4 c5 rn rc Ao co ts 5 2 W5 ⟨hLd_.out.below HB5.out⟩ HC5_.out HCO.out HK.out
  clear HK HC5_ HCO
  with_reducible refine hfin.mono ?_
  clear hfin
  rintro e w4 ⟨rfl, hb4⟩
  have HB4 := Aside0.mk (below_step HB5.out hb4)
  clear hb4
  go_wp2_with fail
  go_ret
  exact ⟨rfl, HB4.out⟩
set_option maxHeartbeats 8000000 in
set_option maxRecDepth 100000 in
theorem ez4a (k : Nat) (a0 : Int) (a1 : Int) (a2 : Int) (a3 : Int) (a4_0 : ByteArray) (a4_1 : Int) (a4_2 : Int) (a4_3 : Int) (a4_4 : Int) (a4_5 : Int) (A5 : Option Addr) (c5_ : Nat) (l5 : List Int) (a6 : Int) (kd : Int) (nm tg : ByteArray) (n dr : Int) (c0 : ByteArray) (c1 c2 c3 c4 c5 : Int) (rn rc : ByteArray) (ts : List S39) (ro : Int) (w : World) (hLd_ : Aside0 (LaidW w)) (hr5 : Kd.C (Kd.int .i64) w A5 l5.length l5) (hc5 : l5.length ≤ c5_)
    (hm : damperlaw3_Make.f k a0 a1 a2 a3 a4_0 a4_1 a4_2 a4_3 a4_4 a4_5 l5 = some (kd, nm, tg, n, dr, c0, c1, c2, c3, c4, c5, rn, rc, ts, ro)) (hj : wi a6 5 = 4) (hk : kd ≤ 8) (hck : event_Check.f k kd nm tg 1 dr c0 c1 c2 c3 c4 c5 rn rc ts ro = some 0) :
    Calls Tryd.prog 8 #[.int .i64 a0, .int .i64 a1, .int .i64 a2, .int .i64 a3, .agg #[.string a4_0, .int .i64 a4_1, .int .i64 a4_2, .int .i64 a4_3, .int .i64 a4_4, .int .i64 a4_5], .slice A5 l5.length c5_, .int .i64 a6] w fun e w' => e = .returned (.bool true) ∧ Below w.heap.size w w' := by
  have t8 : decide (kd ≤ 8) = true := decide_eq_true hk
  clear hk
  have HM := Aside0.mk hm
  have HK := Aside0.mk hck
  have HR5 := Aside0.mk hr5
  have HC5 := Aside0.mk hc5
  clear hm hck hr5 hc5
  go_enter Tryd.func8, Tryd.ntmps8
  go_wp2_with fail
  refine (damperlaw3_known.calls true _ ⟨hLd_.out.below (below_alloc (Below.refl _ _) _)⟩ rfl).mono ?_
  rintro e w1 ⟨rfl, hb1⟩
  have HB1 := Aside0.mk (below_step (below_alloc (Below.refl w.heap.size w) _) hb1)
  have hbox : w1.heap[w.heap.size]? = some (.cells #[.string a4_0, .int .i64 a4_1, .int .i64 a4_2, .int .i64 a4_3, .int .i64 a4_4, .int .i64 a4_5] 23 (0, 0)) := blk_below (blk_new _ _) hb1
  clear hb1
  have y0 : w1.cell? ⟨w.heap.size, 0, none⟩ = some (.string a4_0) := (blk_cell hbox 0).trans rfl
  have y1 : w1.cell? ⟨w.heap.size, 1, none⟩ = some (.int .i64 a4_1) := (blk_cell hbox 1).trans rfl
  have y2 : w1.cell? ⟨w.heap.size, 2, none⟩ = some (.int .i64 a4_2) := (blk_cell hbox 2).trans rfl
  have y3 : w1.cell? ⟨w.heap.size, 3, none⟩ = some (.int .i64 a4_3) := (blk_cell hbox 3).trans rfl
  have y4 : w1.cell? ⟨w.heap.size, 4, none⟩ = some (.int .i64 a4_4) := (blk_cell hbox 4).trans rfl
  have y5 : w1.cell? ⟨w.heap.size, 5, none⟩ = some (.int .i64 a4_5) := (blk_cell hbox 5).trans rfl
  clear hbox
  go_wp2_with fail
  refine (damperlaw3_Make.calls k a0 a1 a2 a3 a4_0 a4_1 a4_2 a4_3 a4_4 a4_5 A5 c5_ l5 kd nm tg n dr c0 c1 c2 c3 c4 c5 rn rc ts ro _ (Kd.C_below HR5.out HB1.out) HC5.out HM.out).mono ?_
  rintro e w2 ⟨v13, rfl, hR, hb2⟩
  obtain ⟨Ao, co, rfl⟩ := Kd.R_slice hR
  obtain ⟨_, hco, hC⟩ := Kd.R_reads' hR
  have HCO := Aside0.mk hco
  have HC := Aside0.mk hC
  have HB2 := Aside0.mk (below_step HB1.out hb2)
  clear hR hb2 hco hC y0 y1 y2 y3 y4 y5
  go_wp2_with fail
  refine (damperlaw3_within.keep a6 5 hj (by decide) _).mono ?_
  rintro e w3 ⟨rfl, rfl⟩
  go_wp2_with fail
  generalize hW : World.alloc (World.alloc w2 _) _ = W5
  have hB5 : Below w2.heap.size w2 W5 := by
    rw [← hW]
    exact below_alloc (below_alloc (Below.refl _ _) _) _
  clear hW
  have HB5 := Aside0.mk (below_step HB2.out hB5)
  have HC5_ := Aside0.mk (Kd.C_below HC.out hB5)
  clear hB5 HC HB2
  have hfin := event_Check.calls k kd nm tg 1 dr c0 c1 c2 c3 c4 c5 rn rc Ao co ts ro 0 W5 ⟨hLd_.out.below HB5.out⟩ HC5_.out HCO.out HK.out
  clear HK HC5_ HCO
  with_reducible refine hfin.mono ?_
  clear hfin
  rintro e w4 ⟨rfl, hb4⟩
  have HB4 := Aside0.mk (below_step HB5.out hb4)
  clear hb4
  go_wp2_with fail
  go_ret
  exact ⟨rfl, HB4.out⟩
set_option maxHeartbeats 8000000 in
set_option maxRecDepth 100000 in
theorem ez4c (k : Nat) (a0 : Int) (a1 : Int) (a2 : Int) (a3 : Int) (a4_0 : ByteArray) (a4_1 : Int) (a4_2 : Int) (a4_3 : Int) (a4_4 : Int) (a4_5 : Int) (A5 : Option Addr) (c5_ : Nat) (l5 : List Int) (a6 : Int) (kd : Int) (nm tg : ByteArray) (n dr : Int) (c0 : ByteArray) (c1 c2 c3 c4 c5 : Int) (rn rc : ByteArray) (ts : List S39) (ro : Int) (w : World) (hLd_ : Aside0 (LaidW w)) (hr5 : Kd.C (Kd.int .i64) w A5 l5.length l5) (hc5 : l5.length ≤ c5_)
    (hm : damperlaw3_Make.f k a0 a1 a2 a3 a4_0 a4_1 a4_2 a4_3 a4_4 a4_5 l5 = some (kd, nm, tg, n, dr, c0, c1, c2, c3, c4, c5, rn, rc, ts, ro)) (hj : wi a6 5 = 4) (hk : ¬ kd ≤ 8) (hck : event_Check.f k kd nm tg 1 dr c0 c1 c2 c3 c4 c5 rn rc ts ro = some 2) :
    Calls Tryd.prog 8 #[.int .i64 a0, .int .i64 a1, .int .i64 a2, .int .i64 a3, .agg #[.string a4_0, .int .i64 a4_1, .int .i64 a4_2, .int .i64 a4_3, .int .i64 a4_4, .int .i64 a4_5], .slice A5 l5.length c5_, .int .i64 a6] w fun e w' => e = .returned (.bool true) ∧ Below w.heap.size w w' := by
  have t8 : decide (kd ≤ 8) = false := decide_eq_false hk
  clear hk
  have HM := Aside0.mk hm
  have HK := Aside0.mk hck
  have HR5 := Aside0.mk hr5
  have HC5 := Aside0.mk hc5
  clear hm hck hr5 hc5
  go_enter Tryd.func8, Tryd.ntmps8
  go_wp2_with fail
  refine (damperlaw3_known.calls true _ ⟨hLd_.out.below (below_alloc (Below.refl _ _) _)⟩ rfl).mono ?_
  rintro e w1 ⟨rfl, hb1⟩
  have HB1 := Aside0.mk (below_step (below_alloc (Below.refl w.heap.size w) _) hb1)
  have hbox : w1.heap[w.heap.size]? = some (.cells #[.string a4_0, .int .i64 a4_1, .int .i64 a4_2, .int .i64 a4_3, .int .i64 a4_4, .int .i64 a4_5] 23 (0, 0)) := blk_below (blk_new _ _) hb1
  clear hb1
  have y0 : w1.cell? ⟨w.heap.size, 0, none⟩ = some (.string a4_0) := (blk_cell hbox 0).trans rfl
  have y1 : w1.cell? ⟨w.heap.size, 1, none⟩ = some (.int .i64 a4_1) := (blk_cell hbox 1).trans rfl
  have y2 : w1.cell? ⟨w.heap.size, 2, none⟩ = some (.int .i64 a4_2) := (blk_cell hbox 2).trans rfl
  have y3 : w1.cell? ⟨w.heap.size, 3, none⟩ = some (.int .i64 a4_3) := (blk_cell hbox 3).trans rfl
  have y4 : w1.cell? ⟨w.heap.size, 4, none⟩ = some (.int .i64 a4_4) := (blk_cell hbox 4).trans rfl
  have y5 : w1.cell? ⟨w.heap.size, 5, none⟩ = some (.int .i64 a4_5) := (blk_cell hbox 5).trans rfl
  clear hbox
  go_wp2_with fail
  refine (damperlaw3_Make.calls k a0 a1 a2 a3 a4_0 a4_1 a4_2 a4_3 a4_4 a4_5 A5 c5_ l5 kd nm tg n dr c0 c1 c2 c3 c4 c5 rn rc ts ro _ (Kd.C_below HR5.out HB1.out) HC5.out HM.out).mono ?_
  rintro e w2 ⟨v13, rfl, hR, hb2⟩
  obtain ⟨Ao, co, rfl⟩ := Kd.R_slice hR
  obtain ⟨_, hco, hC⟩ := Kd.R_reads' hR
  have HCO := Aside0.mk hco
  have HC := Aside0.mk hC
  have HB2 := Aside0.mk (below_step HB1.out hb2)
  clear hR hb2 hco hC y0 y1 y2 y3 y4 y5
  go_wp2_with fail
  refine (damperlaw3_within.keep a6 5 hj (by decide) _).mono ?_
  rintro e w3 ⟨rfl, rfl⟩
  go_wp2_with fail
  generalize hW : World.alloc (World.alloc w2 _) _ = W5
  have hB5 : Below w2.heap.size w2 W5 := by
    rw [← hW]
    exact below_alloc (below_alloc (Below.refl _ _) _) _
  clear hW
  have HB5 := Aside0.mk (below_step HB2.out hB5)
  have HC5_ := Aside0.mk (Kd.C_below HC.out hB5)
  clear hB5 HC HB2
  have hfin := event_Check.calls k kd nm tg 1 dr c0 c1 c2 c3 c4 c5 rn rc Ao co ts ro 2 W5 ⟨hLd_.out.below HB5.out⟩ HC5_.out HCO.out HK.out
  clear HK HC5_ HCO
  with_reducible refine hfin.mono ?_
  clear hfin
  rintro e w4 ⟨rfl, hb4⟩
  have HB4 := Aside0.mk (below_step HB5.out hb4)
  clear hb4
  go_wp2_with fail
  go_ret
  exact ⟨rfl, HB4.out⟩
set_option maxHeartbeats 8000000 in
set_option maxRecDepth 100000 in
theorem damperlaw3_EventZeros.calls (k : Nat) (a0 : Int) (a1 : Int) (a2 : Int) (a3 : Int) (a4_0 : ByteArray) (a4_1 : Int) (a4_2 : Int) (a4_3 : Int) (a4_4 : Int) (a4_5 : Int) (A5 : Option Addr) (c5_ : Nat) (l5 : List Int) (a6 : Int) (r : Bool) (w : World) (hLd_ : Aside0 (LaidW w)) (hr5 : Kd.C (Kd.int .i64) w A5 l5.length l5) (hc5 : l5.length ≤ c5_) (hr0_ : Aside0 (r = true)) (h : damperlaw3_EventZeros.f k a0 a1 a2 a3 a4_0 a4_1 a4_2 a4_3 a4_4 a4_5 l5 a6 = some r) :
    Calls Tryd.prog 8 #[.int .i64 a0, .int .i64 a1, .int .i64 a2, .int .i64 a3, .agg #[.string a4_0, .int .i64 a4_1, .int .i64 a4_2, .int .i64 a4_3, .int .i64 a4_4, .int .i64 a4_5], .slice A5 l5.length c5_, .int .i64 a6] w fun e w' => e = .returned (.bool r) ∧ Below w.heap.size w w' := by
  obtain rfl := hr0_.out
  unfold damperlaw3_EventZeros.f at h
  rw [if_pos (by rfl)] at h
  obtain ⟨⟨kd, nm, tg, n, dr, c0, c1, c2, c3, c4, c5, rn, rc, ts, ro⟩, hm, h⟩ := Option.bind_eq_some_iff.1 h
  unfold ezBody at h
  by_cases j0 : wi a6 5 = 0
  · rw [if_pos j0] at h
    by_cases hk : kd = 3 ∨ kd = 4
    · rw [if_pos hk] at h
      obtain ⟨t, hck, ht⟩ := Option.bind_eq_some_iff.1 h
      have ht2 : t = 0 := by simpa using Option.some.inj ht
      rw [ht2] at hck
      rcases hk with hk | hk
      · exact ez0a k a0 a1 a2 a3 a4_0 a4_1 a4_2 a4_3 a4_4 a4_5 A5 c5_ l5 a6 kd nm tg n dr c0 c1 c2 c3 c4 c5 rn rc ts ro w hLd_ hr5 hc5 hm j0 hk hck
      · exact ez0b k a0 a1 a2 a3 a4_0 a4_1 a4_2 a4_3 a4_4 a4_5 A5 c5_ l5 a6 kd nm tg n dr c0 c1 c2 c3 c4 c5 rn rc ts ro w hLd_ hr5 hc5 hm j0 hk hck
    · rw [if_neg hk] at h
      obtain ⟨t, hck, ht⟩ := Option.bind_eq_some_iff.1 h
      have ht2 : t = 2 := by simpa using Option.some.inj ht
      rw [ht2] at hck
      exact ez0c k a0 a1 a2 a3 a4_0 a4_1 a4_2 a4_3 a4_4 a4_5 A5 c5_ l5 a6 kd nm tg n dr c0 c1 c2 c3 c4 c5 rn rc ts ro w hLd_ hr5 hc5 hm j0 hk hck
  rw [if_neg j0] at h
  by_cases j1 : wi a6 5 = 1
  · rw [if_pos j1] at h
    by_cases hk : kd = 4
    · rw [if_pos hk] at h
      obtain ⟨t, hck, ht⟩ := Option.bind_eq_some_iff.1 h
      have ht2 : t = 0 := by simpa using Option.some.inj ht
      rw [ht2] at hck
      exact ez1a k a0 a1 a2 a3 a4_0 a4_1 a4_2 a4_3 a4_4 a4_5 A5 c5_ l5 a6 kd nm tg n dr c0 c1 c2 c3 c4 c5 rn rc ts ro w hLd_ hr5 hc5 hm j1 hk hck
    · rw [if_neg hk] at h
      obtain ⟨t, hck, ht⟩ := Option.bind_eq_some_iff.1 h
      have ht2 : t = 2 := by simpa using Option.some.inj ht
      rw [ht2] at hck
      exact ez1c k a0 a1 a2 a3 a4_0 a4_1 a4_2 a4_3 a4_4 a4_5 A5 c5_ l5 a6 kd nm tg n dr c0 c1 c2 c3 c4 c5 rn rc ts ro w hLd_ hr5 hc5 hm j1 hk hck
  rw [if_neg j1] at h
  by_cases j2 : wi a6 5 = 2
  · rw [if_pos j2] at h
    by_cases hk : kd = 1
    · rw [if_pos hk] at h
      obtain ⟨t, hck, ht⟩ := Option.bind_eq_some_iff.1 h
      have ht2 : t = 0 := by simpa using Option.some.inj ht
      rw [ht2] at hck
      exact ez2a k a0 a1 a2 a3 a4_0 a4_1 a4_2 a4_3 a4_4 a4_5 A5 c5_ l5 a6 kd nm tg n dr c0 c1 c2 c3 c4 c5 rn rc ts ro w hLd_ hr5 hc5 hm j2 hk hck
    · rw [if_neg hk] at h
      obtain ⟨t, hck, ht⟩ := Option.bind_eq_some_iff.1 h
      have ht2 : t = 2 := by simpa using Option.some.inj ht
      rw [ht2] at hck
      exact ez2c k a0 a1 a2 a3 a4_0 a4_1 a4_2 a4_3 a4_4 a4_5 A5 c5_ l5 a6 kd nm tg n dr c0 c1 c2 c3 c4 c5 rn rc ts ro w hLd_ hr5 hc5 hm j2 hk hck
  rw [if_neg j2] at h
  by_cases j3 : wi a6 5 = 3
  · rw [if_pos j3] at h
    by_cases hk : kd = 2
    · rw [if_pos hk] at h
      obtain ⟨t, hck, ht⟩ := Option.bind_eq_some_iff.1 h
      have ht2 : t = 0 := by simpa using Option.some.inj ht
      rw [ht2] at hck
      exact ez3a k a0 a1 a2 a3 a4_0 a4_1 a4_2 a4_3 a4_4 a4_5 A5 c5_ l5 a6 kd nm tg n dr c0 c1 c2 c3 c4 c5 rn rc ts ro w hLd_ hr5 hc5 hm j3 hk hck
    · rw [if_neg hk] at h
      obtain ⟨t, hck, ht⟩ := Option.bind_eq_some_iff.1 h
      have ht2 : t = 2 := by simpa using Option.some.inj ht
      rw [ht2] at hck
      exact ez3c k a0 a1 a2 a3 a4_0 a4_1 a4_2 a4_3 a4_4 a4_5 A5 c5_ l5 a6 kd nm tg n dr c0 c1 c2 c3 c4 c5 rn rc ts ro w hLd_ hr5 hc5 hm j3 hk hck
  rw [if_neg j3] at h
  by_cases j4 : wi a6 5 = 4
  · rw [if_pos j4] at h
    by_cases hk : kd ≤ 8
    · rw [if_pos hk] at h
      obtain ⟨t, hck, ht⟩ := Option.bind_eq_some_iff.1 h
      have ht2 : t = 0 := by simpa using Option.some.inj ht
      rw [ht2] at hck
      exact ez4a k a0 a1 a2 a3 a4_0 a4_1 a4_2 a4_3 a4_4 a4_5 A5 c5_ l5 a6 kd nm tg n dr c0 c1 c2 c3 c4 c5 rn rc ts ro w hLd_ hr5 hc5 hm j4 hk hck
    · rw [if_neg hk] at h
      obtain ⟨t, hck, ht⟩ := Option.bind_eq_some_iff.1 h
      have ht2 : t = 2 := by simpa using Option.some.inj ht
      rw [ht2] at hck
      exact ez4c k a0 a1 a2 a3 a4_0 a4_1 a4_2 a4_3 a4_4 a4_5 A5 c5_ l5 a6 kd nm tg n dr c0 c1 c2 c3 c4 c5 rn rc ts ro w hLd_ hr5 hc5 hm j4 hk hck
  rw [if_neg j4] at h
  cases h


/-- THE ONE PURE STATEMENT of damperlaw3_EventZeros: yours. -/
def damperlaw3_EventZeros.Pure : Prop := ∀ (a0 : Int) (a1 : Int) (a2 : Int) (a3 : Int) (a4_0 : ByteArray) (a4_1 : Int) (a4_2 : Int) (a4_3 : Int) (a4_4 : Int) (a4_5 : Int) (l5 : List Int) (a6 : Int), ((Lit.int .i64 a0).wf = true) → ((Lit.int .i64 a1).wf = true) → ((Lit.int .i64 a2).wf = true) → ((Lit.int .i64 a3).wf = true) → (a4_0.size ≤ maxLen) → ((Lit.int .i64 a4_1).wf = true) → ((Lit.int .i64 a4_2).wf = true) → ((Lit.int .i64 a4_3).wf = true) → ((Lit.int .i64 a4_4).wf = true) → ((Lit.int .i64 a4_5).wf = true) → (l5.length ≤ maxLen ∧ ∀ y_ ∈ l5, (Lit.int .i64 y_).wf = true) → ((Lit.int .i64 a6).wf = true) → ∃ k, damperlaw3_EventZeros.f k a0 a1 a2 a3 a4_0 a4_1 a4_2 a4_3 a4_4 a4_5 l5 a6 = some true
theorem damperlaw3_EventZeros.walk (P : damperlaw3_EventZeros.Pure) (a0 : Int) (a1 : Int) (a2 : Int) (a3 : Int) (a4_0 : ByteArray) (a4_1 : Int) (a4_2 : Int) (a4_3 : Int) (a4_4 : Int) (a4_5 : Int) (A5 : Option Addr) (c5 : Nat) (l5 : List Int) (a6 : Int) (w : World) (hLd_ : LaidW w) (w0 : (Lit.int .i64 a0).wf = true) (w1 : (Lit.int .i64 a1).wf = true) (w2 : (Lit.int .i64 a2).wf = true) (w3 : (Lit.int .i64 a3).wf = true) (w4_0 : a4_0.size ≤ maxLen) (w4_1 : (Lit.int .i64 a4_1).wf = true) (w4_2 : (Lit.int .i64 a4_2).wf = true) (w4_3 : (Lit.int .i64 a4_3).wf = true) (w4_4 : (Lit.int .i64 a4_4).wf = true) (w4_5 : (Lit.int .i64 a4_5).wf = true) (w5 : l5.length ≤ maxLen ∧ ∀ y_ ∈ l5, (Lit.int .i64 y_).wf = true) (w6 : (Lit.int .i64 a6).wf = true) (hr5 : Kd.C (Kd.int .i64) w A5 l5.length l5) (hc5 : l5.length ≤ c5) :
    Calls Tryd.prog 8 #[.int .i64 a0, .int .i64 a1, .int .i64 a2, .int .i64 a3, .agg #[.string a4_0, .int .i64 a4_1, .int .i64 a4_2, .int .i64 a4_3, .int .i64 a4_4, .int .i64 a4_5], .slice A5 l5.length c5, .int .i64 a6] w fun e w' => e = .returned (.bool true) ∧ Below w.heap.size w w' := by
  obtain ⟨k, h⟩ := P a0 a1 a2 a3 a4_0 a4_1 a4_2 a4_3 a4_4 a4_5 l5 a6 w0 w1 w2 w3 w4_0 w4_1 w4_2 w4_3 w4_4 w4_5 w5 w6
  refine (damperlaw3_EventZeros.calls k a0 a1 a2 a3 a4_0 a4_1 a4_2 a4_3 a4_4 a4_5 A5 c5 l5 a6 true w ⟨hLd_⟩ hr5 hc5 ⟨rfl⟩ h).mono ?_
  rintro e w' ⟨rfl, hd⟩
  exact ⟨rfl, hd⟩
end

end Go.Proofs.YtalpoojepffldaaDoor.Ma
