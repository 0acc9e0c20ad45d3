-- Written by a program of this session (wip/tools/myprint.py), in the form of the kit's print. Not trusted: Lean checks it.
import Derived.Test.YtckcimahclpdfaaDoorMax0
namespace Go.Proofs.YtckcimahclpdfaaDoor.Ma
open Go.RowKit Go.Proofs.YtckcimahclpdfaaDoorW.PrintWords Go.Proofs.YtckcimahclpdfaaDoorW.PrintLast Go.Proofs.YtckcimahclpdfaaDoorW.PrintMore
attribute [local go_sem] max2_int min2_int max_two min_two max_three min_three max_four min_four   -- for this text's walks alone
set_option linter.unusedVariables false
set_option linter.unusedSimpArgs false

-- NOT PRINTED: function 78 (strconv_ParseUint)

-- NOT PRINTED: function 69 (strconv_ParseInt)

-- NOT PRINTED: function 62 (strconv_Atoi_62)

-- NOT PRINTED: function 79 (stringslite_Clone)

-- NOT PRINTED: function 70 (strconv_syntaxError)

-- NOT PRINTED: function 71 (strconv_rangeError)

/-! ### strconv_Itoa_47: function 47 -/
def strconv_Itoa_47.f (a0 : Int) : Option ByteArray := if -9223372036854775808 ≤ a0 ∧ a0 ≤ 9223372036854775807 then some ⟨(Lib.itoa a0).toArray⟩ else none
theorem strconv_Itoa_47.calls (a0 : Int) (r : ByteArray) (w : World) (hLd_ : Aside0 (LaidW w)) (h : strconv_Itoa_47.f a0 = some r) :
    Calls Tryd.prog 47 #[.int .i64 a0] w fun e w' => e = .returned (.string r) ∧ Below w.heap.size w w' := by
  unfold strconv_Itoa_47.f at h
  split at h
  · rename_i hb
    obtain rfl := Option.some.inj h
    refine (Tryd.strconv_Itoa a0 hb.1 hb.2 w hLd_.out.1).mono ?_
    rintro e w' ⟨rfl, k, os, rfl⟩
    exact ⟨rfl, Lib.below_grow _ w (Nat.le_refl _) k os⟩
  · cases h

-- NOT PRINTED: function 80 (errors_New)

-- NOT PRINTED: function 72 (strconv_baseError)

-- NOT PRINTED: function 73 (strconv_bitSizeError)

-- NOT PRINTED: function 63 (strconv_toError)

-- NOT PRINTED: function 52 (strconv_Atoi_52)

/-! ### label_letter: function 55 -/
def label_letter.f (a0 : Int) : Option (Bool) := if a0 ≥ 97 then (some (decide (a0 ≤ 122))) else (some false)
set_option maxHeartbeats 8000000 in
set_option maxRecDepth 100000 in
theorem label_letter.calls (a0 : Int) (r : Bool) (w : World) (h : label_letter.f a0 = some r) :
    Calls Tryd.prog 55 #[.int .i32 a0] w fun e w' => e = .returned (.bool r) ∧ Drawn0 w w' := by
  have H : (if a0 ≥ 97 then (some (decide (a0 ≤ 122))) else (some false)) = some r := h
  clear h
  by_cases c2 : a0 ≥ 97
  · rw [if_pos c2] at H
    have c2b0 : decide (97 ≤ a0) = true := decide_eq_true c2
    clear c2
    obtain rfl := Option.some.inj H
    go_enter Tryd.func55, Tryd.ntmps55
    go_wp2
    go_ret
    exact ⟨by first | rfl | (simp; done) | (simp [*]; done), by repeat (first | exact Drawn0.refl _ | apply Drawn0.step)⟩
  · rw [if_neg c2] at H
    have c2b0 : decide (97 ≤ a0) = false := decide_eq_false c2
    clear c2
    obtain rfl := Option.some.inj H
    go_enter Tryd.func55, Tryd.ntmps55
    go_wp2
    go_ret
    exact ⟨by first | rfl | (simp; done) | (simp [*]; done), by repeat (first | exact Drawn0.refl _ | apply Drawn0.step)⟩

/-! ### label_sign: function 54 -/
def label_sign.j0 : Nat → Int → Option (Bool)
  | 0, _ => none
  | k + 1, x0 => (label_letter.f x0).bind fun t138 => (if t138 = true then (some true) else (if x0 ≥ 48 then (if x0 ≤ 57 then (some true) else (some (x0 == 45))) else (some (x0 == 45))))
def label_sign.f (k : Nat) (a0 : Int) : Option (Bool) := label_sign.j0 k a0
theorem label_sign.mono_l : ∀ k, (∀ y0, LeO (label_sign.j0 k y0) (label_sign.j0 (k + 1) y0))
  | 0 => fun _ r h => by simp [label_sign.j0] at h
  | k + 1 => by
    have ih0 := label_sign.mono_l k
    · intro y0
      unfold label_sign.j0
      repeat' first
      | (with_reducible exact ih0 _)
      | (with_reducible exact LeO.refl _)
      | (with_reducible exact LeO.none _)
      | (with_reducible refine LeO.ite ?_ ?_)
      | (with_reducible refine LeO.bind ?_ (fun _ => ?_))
      | exact ih0 _
      | exact LeO.none _
      | refine LeO.ite ?_ ?_
      | refine LeO.bind ?_ (fun _ => ?_)
theorem label_sign.mono : ∀ a0 k, LeO (label_sign.f k a0) (label_sign.f (k + 1) a0) := by
  intro a0 k
  have ih0 := label_sign.mono_l k
  unfold label_sign.f
  repeat' first
      | (with_reducible exact ih0 _)
      | (with_reducible exact LeO.refl _)
      | (with_reducible exact LeO.none _)
      | (with_reducible refine LeO.ite ?_ ?_)
      | (with_reducible refine LeO.bind ?_ (fun _ => ?_))
      | exact ih0 _
      | exact LeO.none _
      | refine LeO.ite ?_ ?_
      | refine LeO.bind ?_ (fun _ => ?_)
set_option maxHeartbeats 8000000 in
set_option maxRecDepth 100000 in
theorem label_sign.calls (k : Nat) (a0 : Int) (r : Bool) (w : World) (h : label_sign.f k a0 = some r) :
    Calls Tryd.prog 54 #[.int .i32 a0] w fun e w' => e = .returned (.bool r) ∧ Drawn0 w w' := by
  have H : (label_sign.j0 k a0) = some r := h
  clear h
  have HC2 := Aside0.mk H
  clear H
  go_enter Tryd.func54, Tryd.ntmps54
  go_upto_region 0 with (fail)
  go_cut [] (fun wc => ∃ (kq : Nat), Aside0 (label_sign.j0 kq a0 = some r) ∧ Aside0 (kq ≤ k) ∧ Drawn0 w wc)
  case first =>
    have H := HC2.out
    clear HC2
    have H' := Aside0.mk H
    clear H
    go_wp2
    go_meet
    case rel => exact ⟨_, H', ⟨by first | omega | exact Nat.le_refl _⟩, by repeat (first | exact Drawn0.refl _ | apply Drawn0.step)⟩
  case rest =>
    clear HC2
    try clear p2
    obtain ⟨kq, HA, HJ1, ⟨mc1, rfl⟩⟩ := hcut
    cases kq with
    | zero => exact absurd HA.out (by simp [label_sign.j0])
    | succ kj1 =>
      have H := HA.out
      clear HA
      simp only [label_sign.j0] at H
      replace H := Option.bind_eq_some_iff.mp H
      obtain ⟨t138, A30, H⟩ := H
      replace H : (if t138 = true then (some true) else (if a0 ≥ 48 then (if a0 ≤ 57 then (some true) else (some (a0 == 45))) else (some (a0 == 45)))) = some r := H
      have A3 := Aside0.mk A30
      clear A30
      by_cases c4 : t138 = true
      · subst c4
        have H1 : (some true) = some r := by rw [if_pos rfl] at H; exact H
        clear H
        have H := H1
        clear H1
        obtain rfl := Option.some.inj H
        go_wp2_with (first | ((with_reducible refine gate_callee (f := 55) rfl ?_); refine goesL_ (some 4) rfl rfl Tryd.func55 (by kernel_rfl) rfl #[.int .i32 a0] rfl (by (try simp only [List.map_toArray, List.map_cons, List.map_nil]); first | done | rfl | (simp only [List.length_drop, List.length_take]; rfl)) ?_; (with_reducible refine (label_letter.calls a0 true _ A3.out).mono ?_); rintro e w' ⟨rfl, ⟨nd, rfl⟩⟩; refine ⟨_, rfl, ?_⟩))
        go_ret
        exact ⟨by first | rfl | (simp; done) | (simp [*]; done), by repeat (first | exact Drawn0.refl _ | apply Drawn0.step)⟩
      · replace c4 := Bool.eq_false_iff.mpr c4
        subst c4
        have H1 : (if a0 ≥ 48 then (if a0 ≤ 57 then (some true) else (some (a0 == 45))) else (some (a0 == 45))) = some r := by rw [if_neg (show ¬ (false = true) by decide)] at H; exact H
        clear H
        have H := H1
        clear H1
        by_cases c5 : a0 ≥ 48
        · rw [if_pos c5] at H
          have c5b0 : decide (48 ≤ a0) = true := decide_eq_true c5
          clear c5
          by_cases c6 : a0 ≤ 57
          · rw [if_pos c6] at H
            have c6b0 : decide (a0 ≤ 57) = true := decide_eq_true c6
            clear c6
            obtain rfl := Option.some.inj H
            go_wp2_with (first | ((with_reducible refine gate_callee (f := 55) rfl ?_); refine goesL_ (some 4) rfl rfl Tryd.func55 (by kernel_rfl) rfl #[.int .i32 a0] rfl (by (try simp only [List.map_toArray, List.map_cons, List.map_nil]); first | done | rfl | (simp only [List.length_drop, List.length_take]; rfl)) ?_; (with_reducible refine (label_letter.calls a0 false _ A3.out).mono ?_); rintro e w' ⟨rfl, ⟨nd, rfl⟩⟩; refine ⟨_, rfl, ?_⟩))
            go_ret
            exact ⟨by first | rfl | (simp; done) | (simp [*]; done), by repeat (first | exact Drawn0.refl _ | apply Drawn0.step)⟩
          · rw [if_neg c6] at H
            have c6b0 : decide (a0 ≤ 57) = false := decide_eq_false c6
            clear c6
            obtain rfl := Option.some.inj H
            go_wp2_with (first | ((with_reducible refine gate_callee (f := 55) rfl ?_); refine goesL_ (some 4) rfl rfl Tryd.func55 (by kernel_rfl) rfl #[.int .i32 a0] rfl (by (try simp only [List.map_toArray, List.map_cons, List.map_nil]); first | done | rfl | (simp only [List.length_drop, List.length_take]; rfl)) ?_; (with_reducible refine (label_letter.calls a0 false _ A3.out).mono ?_); rintro e w' ⟨rfl, ⟨nd, rfl⟩⟩; refine ⟨_, rfl, ?_⟩))
            go_ret
            exact ⟨by first | rfl | (simp; done) | (simp [*]; done), by repeat (first | exact Drawn0.refl _ | apply Drawn0.step)⟩
        · rw [if_neg c5] at H
          have c5b0 : decide (48 ≤ a0) = false := decide_eq_false c5
          clear c5
          obtain rfl := Option.some.inj H
          go_wp2_with (first | ((with_reducible refine gate_callee (f := 55) rfl ?_); refine goesL_ (some 4) rfl rfl Tryd.func55 (by kernel_rfl) rfl #[.int .i32 a0] rfl (by (try simp only [List.map_toArray, List.map_cons, List.map_nil]); first | done | rfl | (simp only [List.length_drop, List.length_take]; rfl)) ?_; (with_reducible refine (label_letter.calls a0 false _ A3.out).mono ?_); rintro e w' ⟨rfl, ⟨nd, rfl⟩⟩; refine ⟨_, rfl, ?_⟩))
          go_ret
          exact ⟨by first | rfl | (simp; done) | (simp [*]; done), by repeat (first | exact Drawn0.refl _ | apply Drawn0.step)⟩

/-! ### label_short: function 42 -/
/-- A byte that may stand in a name; one that may open it. -/
def isSign (b : UInt8) : Bool := decide (97 ≤ b.toNat) && decide (b.toNat ≤ 122) || decide (48 ≤ b.toNat) && decide (b.toNat ≤ 57) || decide (b.toNat = 45)
def isLetter (b : UInt8) : Bool := decide (97 ≤ b.toNat) && decide (b.toNat ≤ 122)
def shortL (l : List UInt8) (most : Int) : Bool := l.all isSign && l.head?.any isLetter && !(l.getLast? == some 45) && decide ((l.length : Int) ≤ most)
def label_short.f (a0 : ByteArray) (a1 : Int) : Option Bool := some (shortL a0.data.toList a1)

def letB (c : Int) : Bool := decide (97 ≤ c) && decide (c ≤ 122)
def sigB (c : Int) : Bool := letB c || (decide (48 ≤ c) && decide (c ≤ 57) || decide (c = 45))
set_option maxHeartbeats 8000000 in
set_option maxRecDepth 100000 in
theorem letter_walk (a0 : Int) (w : World) : Calls Tryd.prog 55 #[.int .i32 a0] w fun e w' => e = .returned (.bool (letB a0)) ∧ w' = w := by
  by_cases c2 : a0 ≥ 97
  · have c2b0 : decide (97 ≤ a0) = true := decide_eq_true c2
    clear c2
    go_enter Tryd.func55, Tryd.ntmps55
    go_wp2
    go_ret
    exact ⟨by unfold letB; rw [c2b0]; rfl, rfl⟩
  · have c2b0 : decide (97 ≤ a0) = false := decide_eq_false c2
    clear c2
    go_enter Tryd.func55, Tryd.ntmps55
    go_wp2
    go_ret
    exact ⟨by unfold letB; rw [c2b0]; rfl, rfl⟩
set_option maxHeartbeats 8000000 in
set_option maxRecDepth 100000 in
theorem sign_walk (a0 : Int) (w : World) : Calls Tryd.prog 54 #[.int .i32 a0] w fun e w' => e = .returned (.bool (sigB a0)) ∧ w' = w := by
  have b1 : a0 ≥ 48 ∨ ¬ a0 ≥ 48 := Classical.em _
  generalize hL : letB a0 = lb
  have hw := letter_walk a0
  rw [hL] at hw
  cases lb with
  | true =>
    go_enter Tryd.func54, Tryd.ntmps54
    go_wp2_with (go_at_call 55; refine (hw _).mono ?_; rintro e w' ⟨rfl, rfl⟩)
    go_wp2
    go_ret
    exact ⟨by unfold sigB; rw [hL]; rfl, rfl⟩
  | false =>
    by_cases c2 : a0 ≥ 48
    · have c2b0 : decide (48 ≤ a0) = true := decide_eq_true c2
      clear c2
      by_cases c3 : a0 ≤ 57
      · have c3b0 : decide (a0 ≤ 57) = true := decide_eq_true c3
        clear c3
        go_enter Tryd.func54, Tryd.ntmps54
        go_wp2_with (go_at_call 55; refine (hw _).mono ?_; rintro e w' ⟨rfl, rfl⟩)
        go_wp2
        go_ret
        exact ⟨by unfold sigB; rw [hL, c2b0, c3b0]; rfl, rfl⟩
      · have c3b0 : decide (a0 ≤ 57) = false := decide_eq_false c3
        clear c3
        go_enter Tryd.func54, Tryd.ntmps54
        go_wp2_with (go_at_call 55; refine (hw _).mono ?_; rintro e w' ⟨rfl, rfl⟩)
        go_wp2
        go_ret
        exact ⟨by unfold sigB; rw [hL, c2b0, c3b0]; rfl, rfl⟩
    · have c2b0 : decide (48 ≤ a0) = false := decide_eq_false c2
      clear c2
      go_enter Tryd.func54, Tryd.ntmps54
      go_wp2_with (go_at_call 55; refine (hw _).mono ?_; rintro e w' ⟨rfl, rfl⟩)
      go_wp2
      go_ret
      exact ⟨by unfold sigB; rw [hL, c2b0]; rfl, rfl⟩
theorem isLetter_int (b : UInt8) : letB ((b.toNat : Nat) : Int) = isLetter b := by
  unfold letB isLetter
  have e1 : (decide ((97 : Int) ≤ (b.toNat : Int))) = decide (97 ≤ b.toNat) := decide_eq_decide.2 (by omega)
  have e2 : (decide ((b.toNat : Int) ≤ 122)) = decide (b.toNat ≤ 122) := decide_eq_decide.2 (by omega)
  rw [e1, e2]
theorem isSign_int (b : UInt8) : sigB ((b.toNat : Nat) : Int) = isSign b := by
  unfold sigB isSign
  rw [isLetter_int]; unfold isLetter
  have e3 : (decide ((48 : Int) ≤ (b.toNat : Int))) = decide (48 ≤ b.toNat) := decide_eq_decide.2 (by omega)
  have e4 : (decide ((b.toNat : Int) ≤ 57)) = decide (b.toNat ≤ 57) := decide_eq_decide.2 (by omega)
  have e5 : (decide ((b.toNat : Int) = 45)) = decide (b.toNat = 45) := decide_eq_decide.2 (by omega)
  rw [e3, e4, e5, Bool.or_assoc]
theorem sign_high (c : Nat) (h : 128 ≤ c) : sigB ((c : Nat) : Int) = false := by
  simp [sigB, letB]; omega
theorem not_sign_high (b : UInt8) (h : 128 ≤ b.toNat) : isSign b = false := by
  simp [isSign]; omega
theorem isSign_low (b : UInt8) (h : isSign b = true) : b.toNat < 128 := by
  simp [isSign] at h; omega

/-- What is so far: the bytes before 'pos' are signs, the first a letter. -/
def Soft (l : List UInt8) (pos : Nat) (last : Int) : Prop :=
  pos ≤ l.length ∧ (∀ (i : Nat) (h : i < l.length), i < pos → isSign l[i] = true) ∧ (∀ (h : 0 < l.length), 0 < pos → isLetter l[0] = true) ∧
    (pos = 0 → last = 45) ∧ (∀ (h : pos - 1 < l.length), 0 < pos → last = ((l[pos - 1]).toNat : Int))
theorem soft_zero (l : List UInt8) : Soft l 0 45 := ⟨by omega, fun _ _ h => absurd h (by omega), fun _ h => absurd h (by omega), fun _ => rfl, fun _ h => absurd h (by omega)⟩
theorem soft_step {l : List UInt8} {pos : Nat} {last : Int} (h : Soft l pos last) (hp : pos < l.length) (hs : isSign l[pos] = true) (hl : pos = 0 → isLetter l[pos] = true) : Soft l (pos + 1) ((l[pos]).toNat : Int) := by
  obtain ⟨h1, h2, h3, h4, h5⟩ := h
  refine ⟨by omega, fun i hi hlt => ?_, fun h0 _ => ?_, fun h => absurd h (by omega), fun _ _ => by simp⟩
  · by_cases e : i = pos
    · subst e; exact hs
    · exact h2 i hi (by omega)
  · by_cases e : pos = 0
    · subst e; exact hl rfl
    · exact h3 h0 (by omega)
theorem soft_bad {l : List UInt8} {pos : Nat} (most : Int) (hp : pos < l.length) (hs : isSign l[pos] = false ∨ (pos = 0 ∧ isLetter l[pos] = false)) : shortL l most = false := by
  unfold shortL
  rcases hs with hs | ⟨rfl, hs⟩
  · have : l.all isSign = false := by
      rw [List.all_eq_false]
      exact ⟨l[pos], List.getElem_mem hp, by rw [hs]; decide⟩
    rw [this]; rfl
  · cases l with
    | nil => simp at hp
    | cons a l => have : isLetter a = false := hs
                  simp [this]
theorem soft_end {l : List UInt8} {pos : Nat} {last : Int} (most : Int) (h : Soft l pos last) (hp : ¬ pos < l.length) : shortL l most = (!(last == 45) && decide ((l.length : Int) ≤ most)) := by
  obtain ⟨h1, h2, h3, h4, h5⟩ := h
  obtain rfl : pos = l.length := by omega
  unfold shortL
  cases l with
  | nil => rw [h4 rfl]; rfl
  | cons a l =>
    have e1 : (a :: l).all isSign = true := by
      rw [List.all_eq_true]
      intro x hx
      obtain ⟨i, hi, rfl⟩ := List.getElem_of_mem hx
      exact h2 i hi hi
    have e2 : (a :: l).head?.any isLetter = true := by
      have := h3 (by simp) (by simp)
      simpa using this
    rw [e1, e2, h5 (by simp) (by simp), List.getLast?_eq_getElem?, List.getElem?_eq_getElem (by simp)]
    have e3 : ((some ((a :: l)[(a :: l).length - 1]) == some 45) : Bool) = ((((a :: l)[(a :: l).length - 1]).toNat : Int) == 45) := by
      generalize (a :: l)[(a :: l).length - 1] = b
      have : (b = 45) ↔ ((b.toNat : Int) = 45) := ⟨fun e => by subst e; rfl, fun e => UInt8.toNat_inj.1 (by show b.toNat = 45; omega)⟩
      by_cases hb : b = 45
      · subst hb; rfl
      · have h2 := mt this.2 hb
        rw [show ((some b == some (45 : UInt8)) : Bool) = false from beq_eq_false_iff_ne.2 (fun e => hb (Option.some.inj e))]
        exact (beq_eq_false_iff_ne.2 h2).symm
    rw [e3]
    simp
theorem pick_tt (a b : Bool) : (if a then Value.bool true else Value.bool b) = Value.bool (a || b) := by cases a <;> rfl
set_option maxHeartbeats 8000000 in
set_option maxRecDepth 100000 in
theorem label_short.calls (a0 : ByteArray) (a1 : Int) (r : Bool) (w : World) (h : label_short.f a0 a1 = some r) :
    Calls Tryd.prog 42 #[.string a0, .int .i64 a1] w fun e w' => e = .returned (.bool r) ∧ Below w.heap.size w w' := by
  have hr : shortL a0.data.toList a1 = r := Option.some.inj h
  clear h
  go_enter Tryd.func42, Tryd.ntmps42
  go_wp2
  go_loopw [5] (fun n w' => ∃ (pos : Nat) (last : Int), w' = w.iter a0 pos ∧ n = .int .i32 last ∧ Hid (Soft a0.data.toList pos last)) (fun _ w' => a0.size - w'.iterPos w.heap.size)
  case atStart => exact ⟨0, 45, rfl, rfl, soft_zero _⟩
  case round =>
    obtain ⟨pos, last, rfl, rfl, hc⟩ := hrel
    have hbel : ∀ p, Below w.heap.size w (w.iter a0 p) := fun p => (Below.refl _ w).alloc (Nat.le_refl _) _
    by_cases hp : pos < a0.size
    · have hnx : ∀ ty, (Instr.next (.pointer (some ⟨w.heap.size, 0, none⟩)) true ty).run Tryd.prog (w.iter a0 pos) = _ := fun ty => run_next_any w a0 pos ty hp
      have hpl : pos < a0.data.toList.length := hp
      have hb : a0[pos]'hp = a0.data.toList[pos]'hpl := rfl
      by_cases ha : (a0[pos]'hp).toNat < 128
      · rw [decode_ascii a0 pos hp ha] at hnx
        cases hs : isSign (a0[pos]'hp) with
        | false =>
          have hs' := isSign_int (a0[pos]'hp)
          rw [hs] at hs'
          have hf := soft_bad a1 hpl (.inl (hb ▸ hs))
          have hw := sign_walk ((a0[pos]'hp).toNat : Int)
          rw [hs'] at hw
          go_wp2_with (go_at_call 54; refine (hw _).mono ?_; rintro e w' ⟨rfl, rfl⟩)
          go_wp2
          go_ret
          exact ⟨by rw [← hr, hf]; rfl, hbel _⟩
        | true => 
          have hs' := isSign_int (a0[pos]'hp)
          rw [hs] at hs'
          have hw := sign_walk ((a0[pos]'hp).toNat : Int)
          rw [hs'] at hw
          by_cases h0 : pos = 0
          · subst h0
            have e0 : (w.iter a0 (0 + 1)) = w.iter a0 1 := rfl
            cases hl : isLetter (a0[0]'hp) with
            | false =>
              have hl' := isLetter_int (a0[0]'hp)
              rw [hl] at hl'
              have hf := soft_bad a1 hpl (.inr ⟨rfl, hb ▸ hl⟩)
              have hw2 := letter_walk ((a0[0]'hp).toNat : Int)
              rw [hl'] at hw2
              go_wp2_with (first | (go_at_call 54; refine (hw _).mono ?_; rintro e w' ⟨rfl, rfl⟩) | (go_at_call 55; refine (hw2 _).mono ?_; rintro e w' ⟨rfl, rfl⟩))
              go_wp2
              go_ret
              exact ⟨by rw [← hr, hf]; rfl, hbel _⟩
            | true =>
              have hl' := isLetter_int (a0[0]'hp)
              rw [hl] at hl'
              have hw2 := letter_walk ((a0[0]'hp).toNat : Int)
              rw [hl'] at hw2
              go_wp2_with (first | (go_at_call 54; refine (hw _).mono ?_; rintro e w' ⟨rfl, rfl⟩) | (go_at_call 55; refine (hw2 _).mono ?_; rintro e w' ⟨rfl, rfl⟩))
              go_wp2
              go_roundw
              case rel => exact ⟨0 + 1, _, rfl, rfl, soft_step hc.out hpl (hb ▸ hs) (fun _ => hb ▸ hl)⟩
              case measure => simp; omega
          · have h0' : ((pos : Int) == 0) = false := beq_eq_false_iff_ne.2 (by omega)
            go_wp2_with (first | (go_at_call 54; refine (hw _).mono ?_; rintro e w' ⟨rfl, rfl⟩))
            go_wp2
            go_roundw
            case rel => exact ⟨pos + 1, _, rfl, rfl, soft_step hc.out hpl (hb ▸ hs) (fun h => absurd h h0)⟩
            case measure => simp; omega
      · have hd := (decode_high a0 pos hp (by omega)).1
        have hw := sign_walk ((Utf8.decode a0 pos).1 : Int)
        rw [sign_high _ hd] at hw
        have hf := soft_bad a1 hpl (.inl (hb ▸ not_sign_high (a0[pos]'hp) (by omega)))
        go_wp2_with (go_at_call 54; refine (hw _).mono ?_; rintro e w' ⟨rfl, rfl⟩)
        go_wp2
        go_ret
        exact ⟨by rw [← hr, hf]; rfl, hbel _⟩
    · have hnx : ∀ ty, (Instr.next (.pointer (some ⟨w.heap.size, 0, none⟩)) true ty).run Tryd.prog (w.iter a0 pos) = _ := fun ty => run_next_end w a0 pos ty hp
      rw [soft_end a1 hc.out hp] at hr
      by_cases h45 : last = 45
      · subst h45
        go_wp2
        go_ret
        exact ⟨by rw [← hr]; rfl, hbel _⟩
      · rw [show (last == 45) = false from beq_eq_false_iff_ne.2 h45] at hr
        have hb1 : (last != 45) = true := by rw [bne, beq_eq_false_iff_ne.2 h45]; rfl
        have hb2 : (last == 45) = false := beq_eq_false_iff_ne.2 h45
        have hb3 : (last = 45) = False := eq_false h45
        have hb4 : decide (last = 45) = false := decide_eq_false h45
        go_wp2
        go_ret
        exact ⟨by rw [← hr]; rfl, hbel _⟩

/-! ### label_Name: function 64 -/
def label_Name.f (a0 : ByteArray) : Option (Bool) := (label_short.f a0 16).bind fun t139 => (some t139)
set_option maxHeartbeats 8000000 in
set_option maxRecDepth 100000 in
theorem label_Name.calls (a0 : ByteArray) (r : Bool) (w : World) (h : label_Name.f a0 = some r) :
    Calls Tryd.prog 64 #[.string a0] w fun e w' => e = .returned (.bool r) ∧ Below w.heap.size w w' := by
  have HB := Aside0.mk (Below.refl w.heap.size w)
  have H : ((label_short.f a0 16).bind fun t139 => (some t139)) = some r := h
  clear h
  replace H := Option.bind_eq_some_iff.mp H
  obtain ⟨t139, A20, H⟩ := H
  replace H : (some t139) = some r := H
  have A2 := Aside0.mk A20
  clear A20
  obtain rfl := Option.some.inj H
  go_enter Tryd.func64, Tryd.ntmps64
  go_wp2_with (first | ((with_reducible refine gate_callee (f := 42) rfl ?_); refine goesL_ (some 4) rfl rfl Tryd.func42 (by kernel_rfl) rfl #[.string a0, .int .i64 16] rfl (by (try simp only [List.map_toArray, List.map_cons, List.map_nil]); first | done | rfl | (simp only [List.length_drop, List.length_take]; rfl)) ?_; (with_reducible refine (label_short.calls a0 16 t139 _ A2.out).mono ?_); rintro e w3 ⟨rfl, hb⟩; refine ⟨_, rfl, ?_⟩; have n0_ := Aside0.mk (below_step (by repeat (first | (with_reducible first | exact HB.out | apply below_alloc | apply pw_below_drewN | apply below_drew1) | exact HB.out)) hb); clear HB; have HB := n0_; clear n0_; (try clear hb); (try clear hb2); (try clear hk); (try clear hi)))
  go_ret
  exact ⟨by first | rfl | (simp [errW_none, errW_some] <;> rfl) | (simp [*, errW_none, errW_some] <;> rfl), by repeat (first | (with_reducible first | exact HB.out | apply below_alloc | apply pw_below_drewN | apply below_drew1) | exact HB.out)⟩

/-! ### label_Rev: function 53 -/
def label_Rev.j0 : Nat → ByteArray → Int → Bool → Option (ByteArray)
  | 0, _, _, _ => none
  | k + 1, x0, x1, x15 => if x15 = true then (some (⟨#[]⟩ : ByteArray)) else (if x0.size + 1 ≤ 9223372036854775807 then ((strconv_Itoa_47.f x1).bind fun t141 => (if (x0 ++ (⟨#[45]⟩ : ByteArray)).size + t141.size ≤ 9223372036854775807 then (some ((x0 ++ (⟨#[45]⟩ : ByteArray)) ++ t141)) else (none))) else (none))
def label_Rev.f (k : Nat) (a0 : ByteArray) (a1 : Int) : Option (ByteArray) := (label_Name.f a0).bind fun t140 => (if t140 = true then (if a1 < 1 then (label_Rev.j0 k a0 a1 true) else (label_Rev.j0 k a0 a1 (decide (a1 > 999999)))) else (label_Rev.j0 k a0 a1 true))
theorem label_Rev.mono_l : ∀ k, (∀ y0 y1 y2, LeO (label_Rev.j0 k y0 y1 y2) (label_Rev.j0 (k + 1) y0 y1 y2))
  | 0 => fun _ _ _ r h => by simp [label_Rev.j0] at h
  | k + 1 => by
    have ih0 := label_Rev.mono_l k
    · intro y0 y1 y2
      unfold label_Rev.j0
      repeat' first
      | (with_reducible exact ih0 _ _ _)
      | (with_reducible exact LeO.refl _)
      | (with_reducible exact LeO.none _)
      | (with_reducible refine LeO.ite ?_ ?_)
      | (with_reducible refine LeO.bind ?_ (fun _ => ?_))
      | exact ih0 _ _ _
      | exact LeO.none _
      | refine LeO.ite ?_ ?_
      | refine LeO.bind ?_ (fun _ => ?_)
theorem label_Rev.mono : ∀ a0 a1 k, LeO (label_Rev.f k a0 a1) (label_Rev.f (k + 1) a0 a1) := by
  intro a0 a1 k
  have ih0 := label_Rev.mono_l k
  unfold label_Rev.f
  repeat' first
      | (with_reducible exact ih0 _ _ _)
      | (with_reducible exact LeO.refl _)
      | (with_reducible exact LeO.none _)
      | (with_reducible refine LeO.ite ?_ ?_)
      | (with_reducible refine LeO.bind ?_ (fun _ => ?_))
      | exact ih0 _ _ _
      | exact LeO.none _
      | refine LeO.ite ?_ ?_
      | refine LeO.bind ?_ (fun _ => ?_)
set_option maxHeartbeats 8000000 in
set_option maxRecDepth 100000 in
theorem label_Rev.calls (k : Nat) (a0 : ByteArray) (a1 : Int) (r : ByteArray) (w : World) (hLd_ : Aside0 (LaidW w)) (h : label_Rev.f k a0 a1 = some r) :
    Calls Tryd.prog 53 #[.string a0, .int .i64 a1] w fun e w' => e = .returned (.string r) ∧ Below w.heap.size w w' := by
  have HB := Aside0.mk (Below.refl w.heap.size w)
  have H : ((label_Name.f a0).bind fun t140 => (if t140 = true then (if a1 < 1 then (label_Rev.j0 k a0 a1 true) else (label_Rev.j0 k a0 a1 (decide (a1 > 999999)))) else (label_Rev.j0 k a0 a1 true))) = some r := h
  clear h
  have HC3 := Aside0.mk H
  clear H
  go_enter Tryd.func53, Tryd.ntmps53
  go_upto_region 1 with (fail)
  go_cut [15] (fun v15 wc => ∃ (kq : Nat) (x15_2 : Bool), v15 = .bool x15_2 ∧ Aside0 (label_Rev.j0 kq a0 a1 x15_2 = some r) ∧ Aside0 (kq ≤ k) ∧ Aside0 (Below w.heap.size w wc))
  case first =>
    have H := HC3.out
    clear HC3
    replace H := Option.bind_eq_some_iff.mp H
    obtain ⟨t140, A40, H⟩ := H
    replace H : (if t140 = true then (if a1 < 1 then (label_Rev.j0 k a0 a1 true) else (label_Rev.j0 k a0 a1 (decide (a1 > 999999)))) else (label_Rev.j0 k a0 a1 true)) = some r := H
    have A4 := Aside0.mk A40
    clear A40
    by_cases c5 : t140 = true
    · subst c5
      have H1 : (if a1 < 1 then (label_Rev.j0 k a0 a1 true) else (label_Rev.j0 k a0 a1 (decide (a1 > 999999)))) = some r := by rw [if_pos rfl] at H; exact H
      clear H
      have H := H1
      clear H1
      by_cases c6 : a1 < 1
      · rw [if_pos c6] at H
        have c6b0 : decide (a1 < 1) = true := decide_eq_true c6
        clear c6
        (first | rw [c6b0] | (simp only [i64_w, i32_w]; rw [c6b0]) | rw [c6b1] | skip)
        have H' := Aside0.mk H
        clear H
        go_wp2_with (first | ((with_reducible refine gate_callee (f := 64) rfl ?_); refine goesL_ (some 6) rfl rfl Tryd.func64 (by kernel_rfl) rfl #[.string a0] rfl (by (try simp only [List.map_toArray, List.map_cons, List.map_nil]); first | done | rfl | (simp only [List.length_drop, List.length_take]; rfl)) ?_; (with_reducible refine (label_Name.calls a0 true _ A4.out).mono ?_); rintro e w7 ⟨rfl, hb⟩; refine ⟨_, rfl, ?_⟩; have n0_ := Aside0.mk (below_step (by repeat (first | (with_reducible first | exact HB.out | apply below_alloc | apply pw_below_drewN | apply below_drew1) | exact HB.out)) hb); clear HB; have HB := n0_; clear n0_; (try clear hb); (try clear hb2); (try clear hk); (try clear hi)))
        go_meet
        case rel => exact ⟨_, (true), (by first | rfl | (simp; done) | (simp [*]; done)), H', ⟨by first | omega | exact Nat.le_refl _⟩, ⟨by repeat (first | (with_reducible first | exact HB.out | apply below_alloc | apply pw_below_drewN | apply below_drew1) | exact HB.out)⟩⟩
      · rw [if_neg c6] at H
        have c6b0 : decide (a1 < 1) = false := decide_eq_false c6
        clear c6
        (first | rw [c6b0] | (simp only [i64_w, i32_w]; rw [c6b0]) | rw [c6b1] | skip)
        have H' := Aside0.mk H
        clear H
        go_wp2_with (first | ((with_reducible refine gate_callee (f := 64) rfl ?_); refine goesL_ (some 6) rfl rfl Tryd.func64 (by kernel_rfl) rfl #[.string a0] rfl (by (try simp only [List.map_toArray, List.map_cons, List.map_nil]); first | done | rfl | (simp only [List.length_drop, List.length_take]; rfl)) ?_; (with_reducible refine (label_Name.calls a0 true _ A4.out).mono ?_); rintro e w8 ⟨rfl, hb⟩; refine ⟨_, rfl, ?_⟩; have n0_ := Aside0.mk (below_step (by repeat (first | (with_reducible first | exact HB.out | apply below_alloc | apply pw_below_drewN | apply below_drew1) | exact HB.out)) hb); clear HB; have HB := n0_; clear n0_; (try clear hb); (try clear hb2); (try clear hk); (try clear hi)))
        go_meet
        case rel => exact ⟨_, (decide (a1 > 999999)), (by first | rfl | (simp; done) | (simp [*]; done)), H', ⟨by first | omega | exact Nat.le_refl _⟩, ⟨by repeat (first | (with_reducible first | exact HB.out | apply below_alloc | apply pw_below_drewN | apply below_drew1) | exact HB.out)⟩⟩
    · replace c5 := Bool.eq_false_iff.mpr c5
      subst c5
      have H1 : (label_Rev.j0 k a0 a1 true) = some r := by rw [if_neg (show ¬ (false = true) by decide)] at H; exact H
      clear H
      have H := H1
      clear H1
      have H' := Aside0.mk H
      clear H
      go_wp2_with (first | ((with_reducible refine gate_callee (f := 64) rfl ?_); refine goesL_ (some 6) rfl rfl Tryd.func64 (by kernel_rfl) rfl #[.string a0] rfl (by (try simp only [List.map_toArray, List.map_cons, List.map_nil]); first | done | rfl | (simp only [List.length_drop, List.length_take]; rfl)) ?_; (with_reducible refine (label_Name.calls a0 false _ A4.out).mono ?_); rintro e w9 ⟨rfl, hb⟩; refine ⟨_, rfl, ?_⟩; have n0_ := Aside0.mk (below_step (by repeat (first | (with_reducible first | exact HB.out | apply below_alloc | apply pw_below_drewN | apply below_drew1) | exact HB.out)) hb); clear HB; have HB := n0_; clear n0_; (try clear hb); (try clear hb2); (try clear hk); (try clear hi)))
      go_meet
      case rel => exact ⟨_, (true), (by first | rfl | (simp; done) | (simp [*]; done)), H', ⟨by first | omega | exact Nat.le_refl _⟩, ⟨by repeat (first | (with_reducible first | exact HB.out | apply below_alloc | apply pw_below_drewN | apply below_drew1) | exact HB.out)⟩⟩
  case rest =>
    clear HC3
    try clear p2
    try clear c5
    try clear c6
    try clear c6b0
    try clear c6b1
    obtain ⟨kq, x15_2, rfl, HA, HJ2, HB⟩ := hcut
    cases kq with
    | zero => exact absurd HA.out (by simp [label_Rev.j0])
    | succ kj2 =>
      have H := HA.out
      clear HA
      simp only [label_Rev.j0] at H
      by_cases c10 : x15_2 = true
      · subst c10
        have H1 : (some (⟨#[]⟩ : ByteArray)) = some r := by rw [if_pos rfl] at H; exact H
        clear H
        have H := H1
        clear H1
        obtain rfl := Option.some.inj H
        go_wp2
        go_ret
        exact ⟨by first | rfl | (simp [errW_none, errW_some] <;> rfl) | (simp [*, errW_none, errW_some] <;> rfl), by repeat (first | (with_reducible first | exact HB.out | apply below_alloc | apply pw_below_drewN | apply below_drew1) | exact HB.out)⟩
      · replace c10 := Bool.eq_false_iff.mpr c10
        subst c10
        have H1 : (if a0.size + 1 ≤ 9223372036854775807 then ((strconv_Itoa_47.f a1).bind fun t141 => (if (a0 ++ (⟨#[45]⟩ : ByteArray)).size + t141.size ≤ 9223372036854775807 then (some ((a0 ++ (⟨#[45]⟩ : ByteArray)) ++ t141)) else (none))) else (none)) = some r := by rw [if_neg (show ¬ (false = true) by decide)] at H; exact H
        clear H
        have H := H1
        clear H1
        by_cases c11 : a0.size + 1 ≤ 9223372036854775807
        rotate_left
        · rw [if_neg c11] at H
          exact absurd H (by simp)
        rw [if_pos c11] at H
        have c11b0 := eq_true c11
        have c11b1 : decide (a0.size + 1 ≤ 9223372036854775807) = true := decide_eq_true c11
        try have c11b2 : (9223372036854775807 < a0.size + 1) = False := eq_false (Nat.not_lt.2 c11)
        try (have c11b4 := c11; simp at c11b4; have c11b5 := eq_false (Nat.not_lt.2 c11b4))
        replace H := Option.bind_eq_some_iff.mp H
        obtain ⟨t141, A120, H⟩ := H
        replace H : (if (a0 ++ (⟨#[45]⟩ : ByteArray)).size + t141.size ≤ 9223372036854775807 then (some ((a0 ++ (⟨#[45]⟩ : ByteArray)) ++ t141)) else (none)) = some r := H
        have A12 := Aside0.mk A120
        clear A120
        by_cases c13 : (a0 ++ (⟨#[45]⟩ : ByteArray)).size + t141.size ≤ 9223372036854775807
        rotate_left
        · rw [if_neg c13] at H
          exact absurd H (by simp)
        rw [if_pos c13] at H
        have c13b0 := eq_true c13
        have c13b1 : decide ((a0 ++ (⟨#[45]⟩ : ByteArray)).size + t141.size ≤ 9223372036854775807) = true := decide_eq_true c13
        try have c13b3 : (9223372036854775807 < a0.size + 1 + t141.size) = False := eq_false (by have h_ := c13; simp only [ByteArray.size_append] at h_; exact Nat.not_lt.2 h_)
        try have c13b2 : (9223372036854775807 < (a0 ++ (⟨#[45]⟩ : ByteArray)).size + t141.size) = False := eq_false (Nat.not_lt.2 c13)
        try (have c13b4 := c13; simp at c13b4; have c13b5 := eq_false (Nat.not_lt.2 c13b4))
        obtain rfl := Option.some.inj H
        go_wp2_with (first | ((with_reducible refine gate_callee (f := 47) rfl ?_); refine goesL_ (some 19) rfl rfl Tryd.func47 (by kernel_rfl) rfl #[.int .i64 a1] rfl (by (try simp only [List.map_toArray, List.map_cons, List.map_nil]); first | done | rfl | (simp only [List.length_drop, List.length_take]; rfl)) ?_; (with_reducible refine (strconv_Itoa_47.calls a1 t141 _ ?side1 A12.out).mono ?_); (case side1 => first | exact hLd_.out | exact hLd_ | exact ⟨LaidW.below hLd_.out (by repeat (first | (with_reducible first | exact HB.out | apply below_alloc | apply pw_below_drewN | apply below_drew1) | exact HB.out))⟩ | exact ⟨LaidW.below hLd_.out (by repeat (first | exact Below.refl _ _ | apply below_alloc | apply pw_below_drewN | apply below_drew1))⟩); rintro e w14 ⟨rfl, hb⟩; refine ⟨_, rfl, ?_⟩; have n0_ := Aside0.mk (below_step (by repeat (first | (with_reducible first | exact HB.out | apply below_alloc | apply pw_below_drewN | apply below_drew1) | exact HB.out)) hb); clear HB; have HB := n0_; clear n0_; (try clear hb); (try clear hb2); (try clear hk); (try clear hi)))
        go_ret
        exact ⟨by first | rfl | (simp [errW_none, errW_some] <;> rfl) | (simp [*, errW_none, errW_some] <;> rfl), by repeat (first | (with_reducible first | exact HB.out | apply below_alloc | apply pw_below_drewN | apply below_drew1) | exact HB.out)⟩

end Go.Proofs.YtckcimahclpdfaaDoor.Ma
