-- Written by a program of this session (wip/tools/myprint.py), in the form of the kit's print. Not trusted: Lean checks it.
import Derived.Test.YtgnnbnbmjifgfaaDoorMax0
import Derived.Test.YtgnnbnbmjifgfaaDoorMax20
namespace Go.Proofs.YtgnnbnbmjifgfaaDoor.Ma
open Go.RowKit Go.Proofs.YtgnnbnbmjifgfaaDoorW.PrintWords Go.Proofs.YtgnnbnbmjifgfaaDoorW.PrintLast Go.Proofs.YtgnnbnbmjifgfaaDoorW.PrintMore
attribute [local go_sem] max2_int min2_int max_two min_two max_three min_three max_four min_four   -- for this text's walks alone
set_option linter.unusedVariables false
set_option linter.unusedSimpArgs false

/-! ### label_Split: function 20 -/
/-- How label.Split parts a text: at the last '-'; behind it a number, of which Rev makes the same text. -/
def splitAt (s : ByteArray) (i : Nat) : Option (ByteArray × Int × Bool) :=
  match Lib.atoiAll (s.extract (i + 1) s.size).data.toList with
  | .ok v => (label_Rev.f 1 (s.extract 0 i) v).bind fun r => if r.toList = s.toList then some (s.extract 0 i, v, true) else some (⟨#[]⟩, 0, false)
  | _ => some (⟨#[]⟩, 0, false)
def label_Split.f (a0 : ByteArray) : Option (ByteArray × Int × Bool) :=
  if a0.size ≤ 1000000 then
    if Lib.lastIndexByte a0 45 < 0 then some (⟨#[]⟩, 0, false) else splitAt a0 (Lib.lastIndexByte a0 45).toNat
  else none
theorem last_bounds (s : ByteArray) (h : ¬ Lib.lastIndexByte s 45 < 0) : ∃ i : Nat, i < s.size ∧ Lib.lastIndexByte s 45 = (i : Int) := by
  rcases Lib.lastIdx_spec s 45 s.size with ⟨e, _⟩ | ⟨i, hi, e, _⟩
  · exact absurd (show Lib.lastIndexByte s 45 < 0 by unfold Lib.lastIndexByte; omega) h
  · exact ⟨i, hi, e⟩
theorem atoi_world {w w' : World} (h : w' = w ∨ ∃ t, w' = Lib.bytesWorld w 5 t) : Below w.heap.size w w' := by
  rcases h with rfl | ⟨t, rfl⟩
  · exact Below.refl _ _
  · exact Lib.bytesWorld_below _ _ _
set_option maxHeartbeats 8000000 in
set_option maxRecDepth 100000 in
theorem label_Split.calls (a0 : ByteArray) (r1 : ByteArray) (r2 : Int) (r3 : Bool) (w : World) (hLd_ : Aside0 (LaidW w)) (h : label_Split.f a0 = some (r1, r2, r3)) :
    Calls Tryd.prog 20 #[.string a0] w fun e w' => e = .returned (.tuple #[.string r1, .int .i64 r2, .bool r3]) ∧ Below w.heap.size w w' := by
  unfold label_Split.f at h
  by_cases hsz : a0.size ≤ 1000000
  case neg => rw [if_neg hsz] at h; cases h
  rw [if_pos hsz] at h
  have hLI := Tryd.strings_LastIndex_one a0 ⟨#[45]⟩ rfl (by omega) w
  have hLI : Calls Tryd.prog 25 #[.string a0, .string ⟨#[45]⟩] w fun e w' => e = .returned (.int .i64 (Lib.lastIndexByte a0 45)) ∧ w' = w := hLI
  by_cases hneg : Lib.lastIndexByte a0 45 < 0
  · rw [if_pos hneg] at h
    obtain ⟨rfl, rfl, rfl⟩ : (⟨#[]⟩ : ByteArray) = r1 ∧ (0 : Int) = r2 ∧ false = r3 := by injection h with h; injection h with h1 h2; injection h2 with h2 h3; exact ⟨h1, h2, h3⟩
    generalize Lib.lastIndexByte a0 45 = li at hLI hneg
    have hn1 : decide (li < 0) = true := decide_eq_true hneg
    go_enter Tryd.func20, Tryd.ntmps20
    go_wp2_with (go_at_call 25; refine hLI.mono ?_; rintro e w' ⟨rfl, rfl⟩)
    go_wp2
    go_ret3
    exact ⟨rfl, Below.refl _ _⟩
  · rw [if_neg hneg] at h
    obtain ⟨i, hi, e⟩ := last_bounds a0 hneg
    rw [e] at hLI h hneg
    clear hneg e
    rw [show ((i : Nat) : Int).toNat = i from rfl] at h
    unfold splitAt at h
    generalize hT : a0.extract (i + 1) a0.size = t at h
    have htsz : t.size ≤ 1000000 := by rw [← hT]; simp; omega
    have hA : (Tryd.prog.funcs.size = Tryd.prog.funcs.size) := rfl
    have hi1 : (IntKind.i64.wrap ((i : Int) + 1)) = ((i + 1 : Nat) : Int) := by
      rw [i64_w]; unfold wrap64; omega
    have hng : decide ((i : Int) < 0) = false := decide_eq_false (by omega)
    have g1 : decide ((i : Int) + 1 ≤ (a0.size : Int)) = true := decide_eq_true (by omega)
    have g2 : decide ((0 : Int) ≤ (i : Int) + 1) = true := decide_eq_true (by omega)
    rcases hE : Lib.atoiAll t.data.toList with v | _ | _
    · rw [hE] at h
      obtain ⟨rr, hR, h⟩ := Option.bind_eq_some_iff.mp h
      have hAt := Tryd.strconv_Atoi_ok t (by omega) v hE
      by_cases hq : rr.toList = a0.toList
      · rw [if_pos hq] at h
        obtain ⟨rfl, rfl, rfl⟩ : a0.extract 0 i = r1 ∧ v = r2 ∧ true = r3 := by injection h with h; injection h with h1 h2; injection h2 with h2 h3; exact ⟨h1, h2, h3⟩
        have hq1 : (rr.toList != a0.toList) = false := by rw [hq]; simp
        have hq2 : (rr.toList = a0.toList) = True := eq_true hq
        have hq3 : (rr.toList == a0.toList) = true := by rw [hq]; simp
        go_enter Tryd.func20, Tryd.ntmps20
        go_wp2_with (first | (go_at_call 25; refine hLI.mono ?_; rintro e w' ⟨rfl, rfl⟩) | (go_at_call 26; refine (hAt _).mono ?_; rintro e w1 ⟨rfl, hW⟩; have hb1 := atoi_world hW; clear hW) | (go_at_call 17; refine (label_Rev.calls 1 (a0.extract 0 i) v rr _ ⟨hLd_.out.below hb1⟩ hR).mono ?_; rintro e w2 ⟨rfl, hb2⟩))
        go_wp2
        go_ret3
        exact ⟨rfl, hb1.trans (hb2.mono hb1.size)⟩
      · rw [if_neg hq] at h
        obtain ⟨rfl, rfl, rfl⟩ : (⟨#[]⟩ : ByteArray) = r1 ∧ (0 : Int) = r2 ∧ false = r3 := by injection h with h; injection h with h1 h2; injection h2 with h2 h3; exact ⟨h1, h2, h3⟩
        have hq1 : (rr.toList != a0.toList) = true := by simpa using hq
        have hq2 : (rr.toList = a0.toList) = False := eq_false hq
        have hq3 : (rr.toList == a0.toList) = false := by simpa using hq
        go_enter Tryd.func20, Tryd.ntmps20
        go_wp2_with (first | (go_at_call 25; refine hLI.mono ?_; rintro e w' ⟨rfl, rfl⟩) | (go_at_call 26; refine (hAt _).mono ?_; rintro e w1 ⟨rfl, hW⟩; have hb1 := atoi_world hW; clear hW) | (go_at_call 17; refine (label_Rev.calls 1 (a0.extract 0 i) v rr _ ⟨hLd_.out.below hb1⟩ hR).mono ?_; rintro e w2 ⟨rfl, hb2⟩))
        go_wp2
        go_ret3
        exact ⟨rfl, hb1.trans (hb2.mono hb1.size)⟩
    · rw [hE] at h
      obtain ⟨rfl, rfl, rfl⟩ : (⟨#[]⟩ : ByteArray) = r1 ∧ (0 : Int) = r2 ∧ false = r3 := by injection h with h; injection h with h1 h2; injection h2 with h2 h3; exact ⟨h1, h2, h3⟩
      obtain ⟨_, ⟨tp, p, hvar⟩, _⟩ := hLd_.out
      have hAt := Any.strconv_Atoi_syntax_var Tryd.laysC172 t (by omega) hE tp p w hvar
      clear hvar
      go_enter Tryd.func20, Tryd.ntmps20
      go_wp2_with (first | (go_at_call 25; refine hLI.mono ?_; rintro e w' ⟨rfl, rfl⟩) | (go_at_call 26; refine hAt.mono ?_; rintro e w1 ⟨N, rfl, _, _, hb1⟩))
      go_wp2
      go_ret3
      exact ⟨rfl, hb1⟩
    · rw [hE] at h
      obtain ⟨rfl, rfl, rfl⟩ : (⟨#[]⟩ : ByteArray) = r1 ∧ (0 : Int) = r2 ∧ false = r3 := by injection h with h; injection h with h1 h2; injection h2 with h2 h3; exact ⟨h1, h2, h3⟩
      obtain ⟨_, _, ⟨tp, p, hvar⟩⟩ := hLd_.out
      have hAt := Any.strconv_Atoi_range_var Tryd.laysC172 t (by omega) hE tp p w hvar
      clear hvar
      go_enter Tryd.func20, Tryd.ntmps20
      go_wp2_with (first | (go_at_call 25; refine hLI.mono ?_; rintro e w' ⟨rfl, rfl⟩) | (go_at_call 26; refine hAt.mono ?_; rintro e w1 ⟨N, rfl, _, _, hb1⟩))
      go_wp2
      go_ret3
      exact ⟨rfl, hb1⟩

end Go.Proofs.YtgnnbnbmjifgfaaDoor.Ma
