-- Written by a program of this session (wip/tools/pack.py) out of its printed parts. Not trusted: Lean checks it.
import Derived.Test.YtalpoojepffldaaDoorCkd
import Derived.Test.YtalpoojepffldaaDoorCke
import Derived.Test.YtalpoojepffldaaDoorCkf
import Derived.Test.YtalpoojepffldaaDoorCkg
import Derived.Test.YtalpoojepffldaaDoorMax0
import Derived.Test.YtalpoojepffldaaDoorPa
import Derived.Test.YtalpoojepffldaaDoorPb
import Derived.Test.YtalpoojepffldaaDoorPc
import Derived.Test.YtalpoojepffldaaDoorPd
namespace Go.Proofs.YtalpoojepffldaaDoor.Ma
open Go.RowKit Go.Proofs.YtalpoojepffldaaDoorW.PrintWords Go.Proofs.YtalpoojepffldaaDoorW.PrintLast Go.Proofs.YtalpoojepffldaaDoorW.PrintMore
attribute [local go_sem] max2_int min2_int max_two min_two max_three min_three max_four min_four   -- for this text's walks alone
set_option linter.unusedVariables false
set_option linter.unusedSimpArgs false

section
/-! ### damperref3_Check: function 16 -/
def ckB (s : Option Bool) (sp : Option (ByteArray × Int × Bool)) (rest : (ByteArray × Int × Bool) → Option Int) : Option Int := s.bind fun s => if s = true then sp.bind rest else some 2
def damperref3_Check.f (k : Nat) (a4 : Int) (a0 : ByteArray) (a3 : ByteArray) (a1 : Int) (a2 : Int) (a5 : ByteArray) (a6 : Int) (a7 : Int) (a8 : Int) (a9 : Int) (b0 : Int) (b1 : ByteArray) (b2 : ByteArray) (b3 : List S39) (b4 : Int) : Option Int :=
  if a4 < 1 then some 12 else if 13 < a4 then some 12 else
  if a4 = 1 then ckB (damperref3_Same.f k 1 a0 a3 a1 a2 a5 a6 a7 a8 a9 b0 b1 b2 b3 b4 1 ⟨#[]⟩ ⟨#[]⟩ a1 0 a5 a6 a7 a8 a9 b0 ⟨#[]⟩ ⟨#[]⟩ [] 0) (damperref1_Split.f k a0) (fun p => (damperref3_number.f a1 0).bind fun a => (damperref2_Config.f k a5 a6 a7 a8 a9 b0).bind fun b => damperref3_first.f k [a, b]) else
  if a4 = 2 then ckB (damperref3_Same.f k 2 a0 a3 a1 a2 a5 a6 a7 a8 a9 b0 b1 b2 b3 b4 2 ⟨#[]⟩ ⟨#[]⟩ a1 0 ⟨#[]⟩ 0 0 0 0 0 b1 b2 b3 b4) (damperref1_Split.f k a0) (fun p => (damperref3_number.f a1 0).bind fun a => (damperref2_Route.f k b1 b2 b3 b4).bind fun b => damperref3_first.f k [a, b]) else
  if a4 = 3 then ckB (damperref3_Same.f k 3 a0 a3 a1 a2 a5 a6 a7 a8 a9 b0 b1 b2 b3 b4 3 a0 ⟨#[]⟩ a1 a2 ⟨#[]⟩ 0 0 0 0 0 ⟨#[]⟩ ⟨#[]⟩ [] 0) (damperref1_Split.f k a0) (fun p => if 2 < a1 then some 2 else (damperref3_number.f a1 1).bind fun a => (damperref1_Name.f k a0).bind fun b => (damperref3_named.f b).bind fun m => (damperref3_number.f a2 0).bind fun d => damperref3_first.f k [a, m, d]) else
  if a4 = 4 then ckB (damperref3_Same.f k 4 a0 a3 a1 a2 a5 a6 a7 a8 a9 b0 b1 b2 b3 b4 4 a0 a3 a1 a2 ⟨#[]⟩ 0 0 0 0 0 ⟨#[]⟩ ⟨#[]⟩ [] 0) (damperref1_Split.f k a0) (fun p => (damperref3_number.f a1 1).bind fun a => (damperref1_Name.f k a0).bind fun b => (damperref3_named.f b).bind fun m => (if a3.toList = [] then some true else damperref1_Tag.f k a3).bind fun t => (damperref3_named.f t).bind fun tm => (damperref3_number.f a2 0).bind fun d => damperref3_first.f k [a, m, tm, d]) else
  if a4 = 5 then ckB (damperref3_Same.f k 5 a0 a3 a1 a2 a5 a6 a7 a8 a9 b0 b1 b2 b3 b4 5 ⟨#[]⟩ ⟨#[]⟩ a1 0 ⟨#[]⟩ 0 0 0 0 0 ⟨#[]⟩ ⟨#[]⟩ [] 0) (damperref1_Split.f k a0) (fun p => damperref3_number.f a1 1) else
  if a4 = 6 then ckB (damperref3_Same.f k 6 a0 a3 a1 a2 a5 a6 a7 a8 a9 b0 b1 b2 b3 b4 6 ⟨#[]⟩ ⟨#[]⟩ a1 0 ⟨#[]⟩ 0 0 0 0 0 ⟨#[]⟩ ⟨#[]⟩ [] 0) (damperref1_Split.f k a0) (fun p => damperref3_number.f a1 1) else
  if a4 = 7 then ckB (damperref3_Same.f k 7 a0 a3 a1 a2 a5 a6 a7 a8 a9 b0 b1 b2 b3 b4 7 ⟨#[]⟩ ⟨#[]⟩ a1 0 ⟨#[]⟩ 0 0 0 0 0 ⟨#[]⟩ ⟨#[]⟩ [] 0) (damperref1_Split.f k a0) (fun p => damperref3_number.f a1 1) else
  if a4 = 8 then ckB (damperref3_Same.f k 8 a0 a3 a1 a2 a5 a6 a7 a8 a9 b0 b1 b2 b3 b4 8 ⟨#[]⟩ ⟨#[]⟩ a1 0 ⟨#[]⟩ 0 0 0 0 0 ⟨#[]⟩ ⟨#[]⟩ [] 0) (damperref1_Split.f k a0) (fun p => damperref3_number.f a1 1) else
  if a4 = 9 then ckB (damperref3_Same.f k 9 a0 a3 a1 a2 a5 a6 a7 a8 a9 b0 b1 b2 b3 b4 9 ⟨#[]⟩ ⟨#[]⟩ 0 0 ⟨#[]⟩ 0 0 0 0 0 ⟨#[]⟩ ⟨#[]⟩ [] 0) (damperref1_Split.f k a0) (fun p => some 0) else
  if a4 = 10 then ckB (damperref3_Same.f k 10 a0 a3 a1 a2 a5 a6 a7 a8 a9 b0 b1 b2 b3 b4 10 a0 ⟨#[]⟩ 0 0 ⟨#[]⟩ 0 0 0 0 0 ⟨#[]⟩ ⟨#[]⟩ [] 0) (damperref1_Split.f k a0) (fun p => (damperref1_Name.f k a0).bind fun b => damperref3_named.f b) else
  if a4 = 11 then ckB (damperref3_Same.f k 11 a0 a3 a1 a2 a5 a6 a7 a8 a9 b0 b1 b2 b3 b4 11 a0 ⟨#[]⟩ 0 0 ⟨#[]⟩ 0 0 0 0 0 ⟨#[]⟩ ⟨#[]⟩ [] 0) (damperref1_Split.f k a0) (fun p => (damperref1_Name.f k a0).bind fun b => damperref3_named.f b) else
  if a4 = 12 then ckB (damperref3_Same.f k 12 a0 a3 a1 a2 a5 a6 a7 a8 a9 b0 b1 b2 b3 b4 12 a0 ⟨#[]⟩ 0 0 ⟨#[]⟩ 0 0 0 0 0 ⟨#[]⟩ ⟨#[]⟩ [] 0) (damperref1_Split.f k a0) (fun p => damperref3_named.f p.2.2) else
  if a4 = 13 then ckB (damperref3_Same.f k 13 a0 a3 a1 a2 a5 a6 a7 a8 a9 b0 b1 b2 b3 b4 13 a0 ⟨#[]⟩ 0 0 ⟨#[]⟩ 0 0 0 0 0 ⟨#[]⟩ ⟨#[]⟩ [] 0) (damperref1_Split.f k a0) (fun p => damperref3_named.f p.2.2) else
  none
set_option maxHeartbeats 8000000 in
set_option maxRecDepth 100000 in
theorem damperref3_Check.calls (k : Nat) (b8 : Int) (a1 : ByteArray) (a3 : ByteArray) (a0 : Int) (a4 : Int) (a5 : ByteArray) (a6 : Int) (a7 : Int) (a8 : Int) (a9 : Int) (b0 : Int) (b1 : ByteArray) (b2 : ByteArray) (b4 : Option Addr) (b5 : Nat) (a2 : List (S39)) (b3 : Int) (r : Int) (w : World) (b6 : Kd.C k39 w b4 a2.length a2) (b7 : a2.length ≤ b5) (h : damperref3_Check.f k b8 a1 a3 a0 a4 a5 a6 a7 a8 a9 b0 b1 b2 a2 b3 = some r) :
    Calls Tryd.prog 16 #[.agg (eV b8 a1 a3 a0 a4 a5 a6 a7 a8 a9 b0 b1 b2 (.slice b4 a2.length b5) b3)] w fun e w' => e = .returned (.int .i64 r) ∧ Below w.heap.size w w' := by
  unfold damperref3_Check.f at h; by_cases q0 : b8 < 1
  · rw [if_pos q0] at h; obtain rfl := Option.some.inj h; exact chko_lo b8 a1 a3 a0 a4 a5 a6 a7 a8 a9 b0 b1 b2 b4 b5 a2 b3 w b6 b7 q0
  rw [if_neg q0] at h; by_cases b9 : 13 < b8
  · rw [if_pos b9] at h; obtain rfl := Option.some.inj h; exact chko_hi b8 a1 a3 a0 a4 a5 a6 a7 a8 a9 b0 b1 b2 b4 b5 a2 b3 w b6 b7 ⟨q0, b9⟩
  rw [if_neg b9] at h; by_cases q1 : b8 = 1
  · rw [if_pos q1] at h; subst q1; obtain ⟨s, hs, h⟩ := Option.bind_eq_some_iff.1 h; cases s
    · obtain rfl := Option.some.inj h; exact chkn_1 a1 a3 a0 a4 a5 a6 a7 a8 a9 b0 b1 b2 b4 b5 a2 b3 w k b6 b7 hs
    · obtain ⟨⟨p1, p2, p3⟩, hsp, h⟩ := Option.bind_eq_some_iff.1 h; replace h : ((damperref3_number.f a0 0).bind fun a => (damperref2_Config.f k a5 a6 a7 a8 a9 b0).bind fun b => damperref3_first.f k [a, b]) = some r := h; obtain ⟨a, h1, h⟩ := Option.bind_eq_some_iff.1 h; obtain ⟨b, h2, h⟩ := Option.bind_eq_some_iff.1 h; exact chky_1 a1 a3 a0 a4 a5 a6 a7 a8 a9 b0 b1 b2 b4 b5 a2 b3 w k b6 b7 p1 p2 p3 hs hsp r a b h1 h2 h
  rw [if_neg q1] at h; by_cases q2 : b8 = 2
  · rw [if_pos q2] at h; subst q2; obtain ⟨s, hs, h⟩ := Option.bind_eq_some_iff.1 h; cases s
    · obtain rfl := Option.some.inj h; exact chkn_2 a1 a3 a0 a4 a5 a6 a7 a8 a9 b0 b1 b2 b4 b5 a2 b3 w k b6 b7 hs
    · obtain ⟨⟨p1, p2, p3⟩, hsp, h⟩ := Option.bind_eq_some_iff.1 h; replace h : ((damperref3_number.f a0 0).bind fun a => (damperref2_Route.f k b1 b2 a2 b3).bind fun b => damperref3_first.f k [a, b]) = some r := h; obtain ⟨a, h1, h⟩ := Option.bind_eq_some_iff.1 h; obtain ⟨b, h2, h⟩ := Option.bind_eq_some_iff.1 h; exact chky_2 a1 a3 a0 a4 a5 a6 a7 a8 a9 b0 b1 b2 b4 b5 a2 b3 w k b6 b7 p1 p2 p3 hs hsp r a b h1 h2 h
  rw [if_neg q2] at h; by_cases q3 : b8 = 3
  · rw [if_pos q3] at h; subst q3; obtain ⟨s, hs, h⟩ := Option.bind_eq_some_iff.1 h; cases s
    · obtain rfl := Option.some.inj h; exact chkn_3 a1 a3 a0 a4 a5 a6 a7 a8 a9 b0 b1 b2 b4 b5 a2 b3 w k b6 b7 hs
    · obtain ⟨⟨p1, p2, p3⟩, hsp, h⟩ := Option.bind_eq_some_iff.1 h; replace h : (if 2 < a0 then some 2 else (damperref3_number.f a0 1).bind fun a => (damperref1_Name.f k a1).bind fun b => (damperref3_named.f b).bind fun m => (damperref3_number.f a4 0).bind fun d => damperref3_first.f k [a, m, d]) = some r := h; by_cases q : 2 < a0
      · rw [if_pos q] at h; obtain rfl := Option.some.inj h; exact chkz_3 a1 a3 a0 a4 a5 a6 a7 a8 a9 b0 b1 b2 b4 b5 a2 b3 w k b6 b7 p1 p2 p3 hs hsp q
      rw [if_neg q] at h; obtain ⟨a, h1, h⟩ := Option.bind_eq_some_iff.1 h; obtain ⟨b, hN, h⟩ := Option.bind_eq_some_iff.1 h; obtain ⟨m, h2, h⟩ := Option.bind_eq_some_iff.1 h; obtain ⟨d, h4, h⟩ := Option.bind_eq_some_iff.1 h; exact chky_3 a1 a3 a0 a4 a5 a6 a7 a8 a9 b0 b1 b2 b4 b5 a2 b3 w k b6 b7 p1 p2 p3 hs hsp r a d m b (by omega) h1 hN h2 h4 h
  rw [if_neg q3] at h; by_cases q4 : b8 = 4
  · rw [if_pos q4] at h; subst q4; obtain ⟨s, hs, h⟩ := Option.bind_eq_some_iff.1 h; cases s
    · obtain rfl := Option.some.inj h; exact chkn_4 a1 a3 a0 a4 a5 a6 a7 a8 a9 b0 b1 b2 b4 b5 a2 b3 w k b6 b7 hs
    · obtain ⟨⟨p1, p2, p3⟩, hsp, h⟩ := Option.bind_eq_some_iff.1 h; replace h : ((damperref3_number.f a0 1).bind fun a => (damperref1_Name.f k a1).bind fun b => (damperref3_named.f b).bind fun m => (if a3.toList = [] then some true else damperref1_Tag.f k a3).bind fun t => (damperref3_named.f t).bind fun tm => (damperref3_number.f a4 0).bind fun d => damperref3_first.f k [a, m, tm, d]) = some r := h; obtain ⟨a, h1, h⟩ := Option.bind_eq_some_iff.1 h; obtain ⟨b, hN, h⟩ := Option.bind_eq_some_iff.1 h; obtain ⟨m, h2, h⟩ := Option.bind_eq_some_iff.1 h; obtain ⟨t, ht, h⟩ := Option.bind_eq_some_iff.1 h; obtain ⟨tm, h5, h⟩ := Option.bind_eq_some_iff.1 h; obtain ⟨d, h4, h⟩ := Option.bind_eq_some_iff.1 h; by_cases q : a3.toList = []
      · rw [if_pos q] at ht; exact chky_4b a1 a3 a0 a4 a5 a6 a7 a8 a9 b0 b1 b2 b4 b5 a2 b3 w k b6 b7 p1 p2 p3 hs hsp r a d m tm b t h1 hN h2 q (Option.some.inj ht).symm h5 h4 h
      · rw [if_neg q] at ht; exact chky_4a a1 a3 a0 a4 a5 a6 a7 a8 a9 b0 b1 b2 b4 b5 a2 b3 w k b6 b7 p1 p2 p3 hs hsp r a d m tm b t h1 hN h2 (by simpa using q) ht h5 h4 h
  rw [if_neg q4] at h; by_cases q5 : b8 = 5
  · rw [if_pos q5] at h; subst q5; obtain ⟨s, hs, h⟩ := Option.bind_eq_some_iff.1 h; cases s
    · obtain rfl := Option.some.inj h; exact chkn_5 a1 a3 a0 a4 a5 a6 a7 a8 a9 b0 b1 b2 b4 b5 a2 b3 w k b6 b7 hs
    · obtain ⟨⟨p1, p2, p3⟩, hsp, h⟩ := Option.bind_eq_some_iff.1 h; replace h : (damperref3_number.f a0 1) = some r := h; exact chky_5 a1 a3 a0 a4 a5 a6 a7 a8 a9 b0 b1 b2 b4 b5 a2 b3 w k b6 b7 p1 p2 p3 hs hsp r h
  rw [if_neg q5] at h; by_cases q6 : b8 = 6
  · rw [if_pos q6] at h; subst q6; obtain ⟨s, hs, h⟩ := Option.bind_eq_some_iff.1 h; cases s
    · obtain rfl := Option.some.inj h; exact chkn_6 a1 a3 a0 a4 a5 a6 a7 a8 a9 b0 b1 b2 b4 b5 a2 b3 w k b6 b7 hs
    · obtain ⟨⟨p1, p2, p3⟩, hsp, h⟩ := Option.bind_eq_some_iff.1 h; replace h : (damperref3_number.f a0 1) = some r := h; exact chky_6 a1 a3 a0 a4 a5 a6 a7 a8 a9 b0 b1 b2 b4 b5 a2 b3 w k b6 b7 p1 p2 p3 hs hsp r h
  rw [if_neg q6] at h; by_cases q7 : b8 = 7
  · rw [if_pos q7] at h; subst q7; obtain ⟨s, hs, h⟩ := Option.bind_eq_some_iff.1 h; cases s
    · obtain rfl := Option.some.inj h; exact chkn_7 a1 a3 a0 a4 a5 a6 a7 a8 a9 b0 b1 b2 b4 b5 a2 b3 w k b6 b7 hs
    · obtain ⟨⟨p1, p2, p3⟩, hsp, h⟩ := Option.bind_eq_some_iff.1 h; replace h : (damperref3_number.f a0 1) = some r := h; exact chky_7 a1 a3 a0 a4 a5 a6 a7 a8 a9 b0 b1 b2 b4 b5 a2 b3 w k b6 b7 p1 p2 p3 hs hsp r h
  rw [if_neg q7] at h; by_cases q8 : b8 = 8
  · rw [if_pos q8] at h; subst q8; obtain ⟨s, hs, h⟩ := Option.bind_eq_some_iff.1 h; cases s
    · obtain rfl := Option.some.inj h; exact chkn_8 a1 a3 a0 a4 a5 a6 a7 a8 a9 b0 b1 b2 b4 b5 a2 b3 w k b6 b7 hs
    · obtain ⟨⟨p1, p2, p3⟩, hsp, h⟩ := Option.bind_eq_some_iff.1 h; replace h : (damperref3_number.f a0 1) = some r := h; exact chky_8 a1 a3 a0 a4 a5 a6 a7 a8 a9 b0 b1 b2 b4 b5 a2 b3 w k b6 b7 p1 p2 p3 hs hsp r h
  rw [if_neg q8] at h; by_cases q9 : b8 = 9
  · rw [if_pos q9] at h; subst q9; obtain ⟨s, hs, h⟩ := Option.bind_eq_some_iff.1 h; cases s
    · obtain rfl := Option.some.inj h; exact chkn_9 a1 a3 a0 a4 a5 a6 a7 a8 a9 b0 b1 b2 b4 b5 a2 b3 w k b6 b7 hs
    · obtain ⟨⟨p1, p2, p3⟩, hsp, h⟩ := Option.bind_eq_some_iff.1 h; replace h : (some 0) = some r := h; obtain rfl := Option.some.inj h; exact chky_9 a1 a3 a0 a4 a5 a6 a7 a8 a9 b0 b1 b2 b4 b5 a2 b3 w k b6 b7 p1 p2 p3 hs hsp
  rw [if_neg q9] at h; by_cases c0 : b8 = 10
  · rw [if_pos c0] at h; subst c0; obtain ⟨s, hs, h⟩ := Option.bind_eq_some_iff.1 h; cases s
    · obtain rfl := Option.some.inj h; exact chkn_10 a1 a3 a0 a4 a5 a6 a7 a8 a9 b0 b1 b2 b4 b5 a2 b3 w k b6 b7 hs
    · obtain ⟨⟨p1, p2, p3⟩, hsp, h⟩ := Option.bind_eq_some_iff.1 h; replace h : ((damperref1_Name.f k a1).bind fun b => damperref3_named.f b) = some r := h; obtain ⟨b, h1, h⟩ := Option.bind_eq_some_iff.1 h; exact chky_10 a1 a3 a0 a4 a5 a6 a7 a8 a9 b0 b1 b2 b4 b5 a2 b3 w k b6 b7 p1 p2 p3 hs hsp r b h1 h
  rw [if_neg c0] at h; by_cases c1 : b8 = 11
  · rw [if_pos c1] at h; subst c1; obtain ⟨s, hs, h⟩ := Option.bind_eq_some_iff.1 h; cases s
    · obtain rfl := Option.some.inj h; exact chkn_11 a1 a3 a0 a4 a5 a6 a7 a8 a9 b0 b1 b2 b4 b5 a2 b3 w k b6 b7 hs
    · obtain ⟨⟨p1, p2, p3⟩, hsp, h⟩ := Option.bind_eq_some_iff.1 h; replace h : ((damperref1_Name.f k a1).bind fun b => damperref3_named.f b) = some r := h; obtain ⟨b, h1, h⟩ := Option.bind_eq_some_iff.1 h; exact chky_11 a1 a3 a0 a4 a5 a6 a7 a8 a9 b0 b1 b2 b4 b5 a2 b3 w k b6 b7 p1 p2 p3 hs hsp r b h1 h
  rw [if_neg c1] at h; by_cases c2 : b8 = 12
  · rw [if_pos c2] at h; subst c2; obtain ⟨s, hs, h⟩ := Option.bind_eq_some_iff.1 h; cases s
    · obtain rfl := Option.some.inj h; exact chkn_12 a1 a3 a0 a4 a5 a6 a7 a8 a9 b0 b1 b2 b4 b5 a2 b3 w k b6 b7 hs
    · obtain ⟨⟨p1, p2, p3⟩, hsp, h⟩ := Option.bind_eq_some_iff.1 h; replace h : (damperref3_named.f p3) = some r := h; exact chky_12 a1 a3 a0 a4 a5 a6 a7 a8 a9 b0 b1 b2 b4 b5 a2 b3 w k b6 b7 p1 p2 p3 hs hsp r h
  rw [if_neg c2] at h; by_cases c3 : b8 = 13
  · rw [if_pos c3] at h; subst c3; obtain ⟨s, hs, h⟩ := Option.bind_eq_some_iff.1 h; cases s
    · obtain rfl := Option.some.inj h; exact chkn_13 a1 a3 a0 a4 a5 a6 a7 a8 a9 b0 b1 b2 b4 b5 a2 b3 w k b6 b7 hs
    · obtain ⟨⟨p1, p2, p3⟩, hsp, h⟩ := Option.bind_eq_some_iff.1 h; replace h : (damperref3_named.f p3) = some r := h; exact chky_13 a1 a3 a0 a4 a5 a6 a7 a8 a9 b0 b1 b2 b4 b5 a2 b3 w k b6 b7 p1 p2 p3 hs hsp r h
  rw [if_neg c3] at h; cases h
end

section
/-! ### damperlaw1_within: function 50 -/
set_option maxHeartbeats 8000000 in
set_option maxRecDepth 100000 in
theorem damperlaw1_within.same (a0 : Int) (a1 : Int) {r : Int} (hr : wi a0 a1 = r) (c3 : a1 ≠ 0) (w : World) :
    Calls Tryd.prog 50 #[.int .i64 a0, .int .i64 a1] w fun e w' => e = .returned (.int .i64 r) ∧ w' = w := by
  subst hr; have c3b0 : (a1 == 0) = false := beq_eq_false_iff_ne.mpr c3; have c3b1 : (a1 != 0) = true := bne_iff_ne.mpr c3; by_cases c4 : (Int.tmod a0 a1) < 0
  · (have hw : wi a0 a1 = wrap64 (Int.tmod a0 a1 + a1) := by unfold wi; rw [if_pos c4]); rw [hw]; clear hw; have c4b0 : decide ((Int.tmod a0 a1) < 0) = true := decide_eq_true c4; clear c4; go_enter Tryd.func50, Tryd.ntmps50; go_wp2; go_ret; exact ⟨au4, rfl⟩
  · (have hw : wi a0 a1 = Int.tmod a0 a1 := by unfold wi; rw [if_neg c4]); rw [hw]; clear hw; have c4b0 : decide ((Int.tmod a0 a1) < 0) = false := decide_eq_false c4; clear c4; go_enter Tryd.func50, Tryd.ntmps50; go_wp2; go_ret; exact ⟨au4, rfl⟩
theorem damperlaw1_within.keep (a0 : Int) (a1 : Int) {r : Int} (hr : wi a0 a1 = r) (c3 : a1 ≠ 0) (w : World) :
    Calls Tryd.prog 50 #[.int .i64 a0, .int .i64 a1] w fun e w' => e = .returned (.int .i64 r) ∧ w = w' :=
  (damperlaw1_within.same a0 a1 hr c3 w).mono fun _ _ h => ⟨h.1, h.2.symm⟩
end

section
/-! ### damperlaw1_Text: function 18 -/
def damperlaw1_Text.l0 : Nat → List Int → ByteArray → Int → Option (ByteArray)
  | 0, _, _, _ => none
  | k + 1, x0, x3, x4 => if x4 < (x0.length : Int) then (if x4 < 24 then ((some (([(⟨#[97]⟩ : ByteArray), (⟨#[122]⟩ : ByteArray), (⟨#[48]⟩ : ByteArray), (⟨#[57]⟩ : ByteArray), (⟨#[45]⟩ : ByteArray), (⟨#[98]⟩ : ByteArray), (⟨#[49]⟩ : ByteArray), (⟨#[65]⟩ : ByteArray), (⟨#[95]⟩ : ByteArray), (⟨#[195, 169]⟩ : ByteArray), (⟨#[97]⟩ : ByteArray), (⟨#[55]⟩ : ByteArray)] : List ByteArray) : List ByteArray)).bind fun a0 => (if 0 ≤ x4 then (if 0 ≤ (wi (rd x0 x4) 12) then (if (wi (rd x0 x4) 12) < (a0.length : Int) then (if x3.size + (rdOf ByteArray.empty a0 (wi (rd x0 x4) 12)).size ≤ 9223372036854775807 then (damperlaw1_Text.l0 k x0 (x3 ++ (rdOf ByteArray.empty a0 (wi (rd x0 x4) 12))) (wrap64 (x4 + 1))) else (none)) else (none)) else (none)) else (none))) else (some x3)) else (some x3)
def damperlaw1_Text.f (k : Nat) (l0 : List Int) : Option (ByteArray) := damperlaw1_Text.l0 k l0 (⟨#[]⟩ : ByteArray) 0
theorem damperlaw1_Text.mono_l : ∀ k, (∀ y0 y1 y2, LeO (damperlaw1_Text.l0 k y0 y1 y2) (damperlaw1_Text.l0 (k + 1) y0 y1 y2))
  | 0 => fun _ _ _ r h => by simp [damperlaw1_Text.l0] at h
  | k + 1 => by
    have a0 := damperlaw1_Text.mono_l k
    · intro y0 y1 y2; unfold damperlaw1_Text.l0
      repeat' first
      | (with_reducible apply a0)
      | (with_reducible exact LeO.refl _)
      | (with_reducible exact LeO.none _)
      | (with_reducible refine LeO.ite ?_ ?_)
      | (with_reducible refine LeO.bind ?_ (fun _ => ?_))
      | apply a0
      | exact LeO.none _
      | refine LeO.ite ?_ ?_
      | refine LeO.bind ?_ (fun _ => ?_)
set_option maxHeartbeats 8000000 in
set_option maxRecDepth 100000 in
theorem damperlaw1_Text.calls (k : Nat) (A0 : Option Addr) (c0 : Nat) (l0 : List Int) (r : ByteArray) (w : World) (b3 : Kd.C (Kd.int .i64) w A0 l0.length l0) (b4 : l0.length ≤ c0) (h : damperlaw1_Text.f k l0 = some r) :
    Calls Tryd.prog 18 #[.slice A0 l0.length c0] w fun e w' => e = .returned (.string r) ∧ Below w.heap.size w w' := by
  have c1 := Aside0.mk b3; have HC0 := Aside0.mk b4; clear b3 b4; have HB := Aside0.mk (Below.refl w.heap.size w); have H : (damperlaw1_Text.l0 k l0 (⟨#[]⟩ : ByteArray) 0) = some r := h; clear h; have H' := Aside0.mk H; clear H; go_enter Tryd.func18, Tryd.ntmps18; go_wp2_with (first | (go_at_call 50; refine (damperlaw1_within.keep _ _ rfl au2 _).mono ?_; rintro e w' ⟨rfl, rfl⟩)); go_loopg [3, 4] k (fun kq v3 v4 w' => ∃ (a3 : ByteArray) (a0 : Int), v3 = .string a3 ∧ v4 = .int .i64 a0 ∧ Aside0 (damperlaw1_Text.l0 kq l0 a3 a0 = some r) ∧ Aside0 (kq ≤ k) ∧ Aside0 (Below w.heap.size w w'))
  case atStart => exact ⟨((⟨#[]⟩ : ByteArray)), (0), au4, au4, H', ⟨Nat.le_refl _⟩, ⟨bw0 HB⟩⟩
  case round =>
    clear H'; obtain ⟨a3, a0, rfl, rfl, HA, b5, HB⟩ := hrel
    cases gk with
    | zero => exact absurd HA.out (by simp [damperlaw1_Text.l0])
    | succ k1 =>
      have H := HA.out; clear HA; simp only [damperlaw1_Text.l0] at H; by_cases c2 : a0 < (l0.length : Int)
      · rw [if_pos c2] at H; have c2b0 : decide (a0 < (l0.length : Int)) = true := decide_eq_true c2; clear c2; by_cases c3 : a0 < 24
        · rw [if_pos c3] at H; have c3b0 : decide (a0 < 24) = true := decide_eq_true c3; clear c3; obtain ⟨a2, a4⟩ : ∃ y_ : List ByteArray, y_ = (([(⟨#[97]⟩ : ByteArray), (⟨#[122]⟩ : ByteArray), (⟨#[48]⟩ : ByteArray), (⟨#[57]⟩ : ByteArray), (⟨#[45]⟩ : ByteArray), (⟨#[98]⟩ : ByteArray), (⟨#[49]⟩ : ByteArray), (⟨#[65]⟩ : ByteArray), (⟨#[95]⟩ : ByteArray), (⟨#[195, 169]⟩ : ByteArray), (⟨#[97]⟩ : ByteArray), (⟨#[55]⟩ : ByteArray)] : List ByteArray)) := ⟨_, rfl⟩; (replace H : (if 0 ≤ a0 then (if 0 ≤ (wi (rd l0 a0) 12) then (if (wi (rd l0 a0) 12) < (a2.length : Int) then (if a3.size + (rdOf ByteArray.empty a2 (wi (rd l0 a0) 12)).size ≤ 9223372036854775807 then (damperlaw1_Text.l0 k1 l0 (a3 ++ (rdOf ByteArray.empty a2 (wi (rd l0 a0) 12))) (wrap64 (a0 + 1))) else (none)) else (none)) else (none)) else (none)) = some r := by first | (rw [a4]; with_reducible exact H) | (have a6 := (Option.bind_some _ _).symm.trans H; rw [a4]; with_reducible exact a6) | (have a6 := (Option.bind_some _ _).symm.trans H; with_reducible exact a6) | with_reducible exact H | (rw [a4]; exact H) | exact H); have b6 := Aside0.mk a4; clear a4; by_cases c4 : 0 ≤ a0; rotate_left
          · rw [if_neg c4] at H; exact absurd H (by simp)
          rw [if_pos c4] at H; have c4b0 : decide (0 ≤ a0) = true := decide_eq_true c4; clear c4; obtain ⟨a1, a7⟩ : ∃ j_ : Int, (wi (rd l0 a0) 12) = j_ := ⟨_, rfl⟩; (replace H : (if 0 ≤ (a1) then (if (a1) < (a2.length : Int) then (if a3.size + (rdOf ByteArray.empty a2 (a1)).size ≤ 9223372036854775807 then (damperlaw1_Text.l0 k1 l0 (a3 ++ (rdOf ByteArray.empty a2 (a1))) (wrap64 (a0 + 1))) else (none)) else (none)) else (none)) = some r := by first | (rw [a7] at H; exact H) | (simp only [a7] at H ⊢; exact H)); by_cases c6 : 0 ≤ (a1); rotate_left
          · rw [if_neg c6] at H; exact absurd H (by simp)
          rw [if_pos c6] at H; have c6b0 : decide (0 ≤ (a1)) = true := decide_eq_true c6; clear c6; by_cases c7 : (a1) < (a2.length : Int); rotate_left
          · rw [if_neg c7] at H; exact absurd H (by simp)
          rw [if_pos c7] at H; have c7b0 : decide ((a1) < (a2.length : Int)) = true := decide_eq_true c7; clear c7; by_cases c8 : a3.size + (rdOf ByteArray.empty a2 (a1)).size ≤ 9223372036854775807; rotate_left
          · rw [if_neg c8] at H; exact absurd H (by simp)
          rw [if_pos c8] at H; have c8b0 := eq_true c8; have c8b1 : decide (a3.size + (rdOf ByteArray.empty a2 (a1)).size ≤ 9223372036854775807) = true := decide_eq_true c8; (try have c8b2 : (9223372036854775807 < a3.size + (rdOf ByteArray.empty a2 (a1)).size) = False := eq_false (Nat.not_lt.2 c8)); (try (have c8b4 := c8; simp at c8b4; have c8b5 := eq_false (Nat.not_lt.2 c8b4))); have H' := Aside0.mk H; clear H; go_wp2_with (first | (go_at_call 50; refine (damperlaw1_within.keep _ _ rfl au2 _).mono ?_; rintro e w' ⟨rfl, rfl⟩) | ((with_reducible refine gate_dst (N := 16) rfl ?_); refine Kd.R_lit Kd.string _ 9 ?hg (N := 16) ?hd (xs := ([(⟨#[97]⟩ : ByteArray), (⟨#[122]⟩ : ByteArray), (⟨#[48]⟩ : ByteArray), (⟨#[57]⟩ : ByteArray), (⟨#[45]⟩ : ByteArray), (⟨#[98]⟩ : ByteArray), (⟨#[49]⟩ : ByteArray), (⟨#[65]⟩ : ByteArray), (⟨#[95]⟩ : ByteArray), (⟨#[195, 169]⟩ : ByteArray), (⟨#[97]⟩ : ByteArray), (⟨#[55]⟩ : ByteArray)] : List ByteArray)) (inner := [.string (⟨#[97]⟩ : ByteArray), .string (⟨#[122]⟩ : ByteArray), .string (⟨#[48]⟩ : ByteArray), .string (⟨#[57]⟩ : ByteArray), .string (⟨#[45]⟩ : ByteArray), .string (⟨#[98]⟩ : ByteArray), .string (⟨#[49]⟩ : ByteArray), .string (⟨#[65]⟩ : ByteArray), .string (⟨#[95]⟩ : ByteArray), .string (⟨#[195, 169]⟩ : ByteArray), .string (⟨#[97]⟩ : ByteArray), .string (⟨#[55]⟩ : ByteArray)]) (ok := fun _ => True) (okp := fun _ => True) ?hr ?hp (fun _ hk => hk) trivial (Below.refl _ _) (Nat.le_refl _) (by simp) ?_; (case hd => rfl); (case hg => rfl); (case hr => first | (go_simp; done) | (go_simp; rfl)); (case hp => exact (Reps.one (show Kd.M Kd.string _ _ _ (⟨#[97]⟩ : ByteArray) [.string (⟨#[97]⟩ : ByteArray)] from rfl) (Reps.one (show Kd.M Kd.string _ _ _ (⟨#[122]⟩ : ByteArray) [.string (⟨#[122]⟩ : ByteArray)] from rfl) (Reps.one (show Kd.M Kd.string _ _ _ (⟨#[48]⟩ : ByteArray) [.string (⟨#[48]⟩ : ByteArray)] from rfl) (Reps.one (show Kd.M Kd.string _ _ _ (⟨#[57]⟩ : ByteArray) [.string (⟨#[57]⟩ : ByteArray)] from rfl) (Reps.one (show Kd.M Kd.string _ _ _ (⟨#[45]⟩ : ByteArray) [.string (⟨#[45]⟩ : ByteArray)] from rfl) (Reps.one (show Kd.M Kd.string _ _ _ (⟨#[98]⟩ : ByteArray) [.string (⟨#[98]⟩ : ByteArray)] from rfl) (Reps.one (show Kd.M Kd.string _ _ _ (⟨#[49]⟩ : ByteArray) [.string (⟨#[49]⟩ : ByteArray)] from rfl) (Reps.one (show Kd.M Kd.string _ _ _ (⟨#[65]⟩ : ByteArray) [.string (⟨#[65]⟩ : ByteArray)] from rfl) (Reps.one (show Kd.M Kd.string _ _ _ (⟨#[95]⟩ : ByteArray) [.string (⟨#[95]⟩ : ByteArray)] from rfl) (Reps.one (show Kd.M Kd.string _ _ _ (⟨#[195, 169]⟩ : ByteArray) [.string (⟨#[195, 169]⟩ : ByteArray)] from rfl) (Reps.one (show Kd.M Kd.string _ _ _ (⟨#[97]⟩ : ByteArray) [.string (⟨#[97]⟩ : ByteArray)] from rfl) (Reps.one (show Kd.M Kd.string _ _ _ (⟨#[55]⟩ : ByteArray) [.string (⟨#[55]⟩ : ByteArray)] from rfl) (Reps.none _ _)))))))))))))); intro v277 w9 a5 hb hg_ hnew_; clear hg_ hnew_; (first | rw [← b6.out] at a5 | (simp only [Int.reduceToNat] at a5; rw [← b6.out] at a5)); have b7 := Aside0.mk (Kd.R_lower a5 (below_size (bw0 HB))); have b8 := Aside0.mk (below_step (bw0 HB) hb); clear HB; have b9 := b7; have HB := b8; clear b7 b8; clear hb a5; have a8 : 0 ≤ (a0 : Int) := of_decide_eq_true au6; have a9 : a0 < (l0.length : Int) := of_decide_eq_true au6; obtain ⟨d1, c5, b0⟩ := Kd.at_int c1.out a0 a8 a9; cases c5; replace b0 := (HB.out.cell (World.block_lt_of_cell? w _ b0)).trans b0; replace a8 := eq_true a8; replace a9 := eq_true a9; obtain ⟨Ao11, co11, c9⟩ := Kd.R_slice b9.out; subst c9; have b1 : 0 ≤ ((a1) : Int) := of_decide_eq_true au6; have b2 : (a1) < (a2.length : Int) := of_decide_eq_true au6; obtain ⟨d2, d0, d3⟩ := Kd.at_string (Kd.R_reads' b9.out).2.2 (a1) b1 b2; cases d0; replace b1 := eq_true b1; replace b2 := eq_true b2)); go_roundg k1
          case measure => have := b5.out; omega
          case rel => exact ⟨(a3 ++ (rdOf ByteArray.empty a2 (a1))), (wrap64 (a0 + 1)), (by first | rfl | (simp; done) | (simp only [← a7] <;> (first | rfl | simp)) | (simp [*]; done)), au4, H', ⟨by have := b5.out; omega⟩, ⟨bw0 HB⟩⟩
        · rw [if_neg c3] at H; have c3b0 : decide (a0 < 24) = false := decide_eq_false c3; clear c3; obtain rfl := Option.some.inj H; go_wp2_with (first | (go_at_call 50; refine (damperlaw1_within.keep _ _ rfl au2 _).mono ?_; rintro e w' ⟨rfl, rfl⟩)); go_ret; exact ⟨au3, bw0 HB⟩
      · rw [if_neg c2] at H; have c2b0 : decide (a0 < (l0.length : Int)) = false := decide_eq_false c2; clear c2; obtain rfl := Option.some.inj H; go_wp2_with (first | (go_at_call 50; refine (damperlaw1_within.keep _ _ rfl au2 _).mono ?_; rintro e w' ⟨rfl, rfl⟩)); go_ret; exact ⟨au3, bw0 HB⟩
end

end Go.Proofs.YtalpoojepffldaaDoor.Ma
