-- Written by a program of this session (wip/tools/myprint.py), in the form of the kit's print. Not trusted: Lean checks it.
import Derived.Test.YtalpoojepffldaaDoorMax0
namespace Go.Proofs.YtalpoojepffldaaDoor.Ma
open Go.RowKit Go.Proofs.YtalpoojepffldaaDoorW.PrintWords Go.Proofs.YtalpoojepffldaaDoorW.PrintLast Go.Proofs.YtalpoojepffldaaDoorW.PrintMore
attribute [local go_sem] max2_int min2_int max_two min_two max_three min_three max_four min_four   -- for this text's walks alone
set_option linter.unusedVariables false
set_option linter.unusedSimpArgs false

/-! ### label_short: function 71 -/
/-- A byte that may stand in a name; one that may open it. -/
def isSign (b : UInt8) : Bool := decide (97 ≤ b.toNat) && decide (b.toNat ≤ 122) || decide (48 ≤ b.toNat) && decide (b.toNat ≤ 57) || decide (b.toNat = 45)
def isLetter (b : UInt8) : Bool := decide (97 ≤ b.toNat) && decide (b.toNat ≤ 122)
def shortL (l : List UInt8) (most : Int) : Bool := l.all isSign && l.head?.any isLetter && !(l.getLast? == some 45) && decide ((l.length : Int) ≤ most)
def label_short.f (a0 : ByteArray) (a1 : Int) : Option Bool := some (shortL a0.data.toList a1)

def letB (c : Int) : Bool := decide (97 ≤ c) && decide (c ≤ 122)
def sigB (c : Int) : Bool := letB c || (decide (48 ≤ c) && decide (c ≤ 57) || decide (c = 45))
set_option maxHeartbeats 8000000 in
set_option maxRecDepth 100000 in
theorem letter_walk (a0 : Int) (w : World) : Calls Tryd.prog 84 #[.int .i32 a0] w fun e w' => e = .returned (.bool (letB a0)) ∧ w' = w := by
  by_cases c2 : a0 ≥ 97
  · have c2b0 : decide (97 ≤ a0) = true := decide_eq_true c2
    clear c2
    go_enter Tryd.func84, Tryd.ntmps84
    go_wp2
    go_ret
    exact ⟨by unfold letB; rw [c2b0]; rfl, rfl⟩
  · have c2b0 : decide (97 ≤ a0) = false := decide_eq_false c2
    clear c2
    go_enter Tryd.func84, Tryd.ntmps84
    go_wp2
    go_ret
    exact ⟨by unfold letB; rw [c2b0]; rfl, rfl⟩
set_option maxHeartbeats 8000000 in
set_option maxRecDepth 100000 in
theorem sign_walk (a0 : Int) (w : World) : Calls Tryd.prog 83 #[.int .i32 a0] w fun e w' => e = .returned (.bool (sigB a0)) ∧ w' = w := by
  have b1 : a0 ≥ 48 ∨ ¬ a0 ≥ 48 := Classical.em _
  generalize hL : letB a0 = lb
  have hw := letter_walk a0
  rw [hL] at hw
  cases lb with
  | true =>
    go_enter Tryd.func83, Tryd.ntmps83
    go_wp2_with (go_at_call 84; refine (hw _).mono ?_; rintro e w' ⟨rfl, rfl⟩)
    go_wp2
    go_ret
    exact ⟨by unfold sigB; rw [hL]; rfl, rfl⟩
  | false =>
    by_cases c2 : a0 ≥ 48
    · have c2b0 : decide (48 ≤ a0) = true := decide_eq_true c2
      clear c2
      by_cases c3 : a0 ≤ 57
      · have c3b0 : decide (a0 ≤ 57) = true := decide_eq_true c3
        clear c3
        go_enter Tryd.func83, Tryd.ntmps83
        go_wp2_with (go_at_call 84; refine (hw _).mono ?_; rintro e w' ⟨rfl, rfl⟩)
        go_wp2
        go_ret
        exact ⟨by unfold sigB; rw [hL, c2b0, c3b0]; rfl, rfl⟩
      · have c3b0 : decide (a0 ≤ 57) = false := decide_eq_false c3
        clear c3
        go_enter Tryd.func83, Tryd.ntmps83
        go_wp2_with (go_at_call 84; refine (hw _).mono ?_; rintro e w' ⟨rfl, rfl⟩)
        go_wp2
        go_ret
        exact ⟨by unfold sigB; rw [hL, c2b0, c3b0]; rfl, rfl⟩
    · have c2b0 : decide (48 ≤ a0) = false := decide_eq_false c2
      clear c2
      go_enter Tryd.func83, Tryd.ntmps83
      go_wp2_with (go_at_call 84; refine (hw _).mono ?_; rintro e w' ⟨rfl, rfl⟩)
      go_wp2
      go_ret
      exact ⟨by unfold sigB; rw [hL, c2b0]; rfl, rfl⟩
theorem isLetter_int (b : UInt8) : letB ((b.toNat : Nat) : Int) = isLetter b := by
  unfold letB isLetter
  have e1 : (decide ((97 : Int) ≤ (b.toNat : Int))) = decide (97 ≤ b.toNat) := decide_eq_decide.2 (by omega)
  have e2 : (decide ((b.toNat : Int) ≤ 122)) = decide (b.toNat ≤ 122) := decide_eq_decide.2 (by omega)
  rw [e1, e2]
theorem isSign_int (b : UInt8) : sigB ((b.toNat : Nat) : Int) = isSign b := by
  unfold sigB isSign
  rw [isLetter_int]; unfold isLetter
  have e3 : (decide ((48 : Int) ≤ (b.toNat : Int))) = decide (48 ≤ b.toNat) := decide_eq_decide.2 (by omega)
  have e4 : (decide ((b.toNat : Int) ≤ 57)) = decide (b.toNat ≤ 57) := decide_eq_decide.2 (by omega)
  have e5 : (decide ((b.toNat : Int) = 45)) = decide (b.toNat = 45) := decide_eq_decide.2 (by omega)
  rw [e3, e4, e5, Bool.or_assoc]
theorem sign_high (c : Nat) (h : 128 ≤ c) : sigB ((c : Nat) : Int) = false := by
  simp [sigB, letB]; omega
theorem not_sign_high (b : UInt8) (h : 128 ≤ b.toNat) : isSign b = false := by
  simp [isSign]; omega
theorem isSign_low (b : UInt8) (h : isSign b = true) : b.toNat < 128 := by
  simp [isSign] at h; omega

/-- What is so far: the bytes before 'pos' are signs, the first a letter. -/
def Soft (l : List UInt8) (pos : Nat) (last : Int) : Prop :=
  pos ≤ l.length ∧ (∀ (i : Nat) (h : i < l.length), i < pos → isSign l[i] = true) ∧ (∀ (h : 0 < l.length), 0 < pos → isLetter l[0] = true) ∧
    (pos = 0 → last = 45) ∧ (∀ (h : pos - 1 < l.length), 0 < pos → last = ((l[pos - 1]).toNat : Int))
theorem soft_zero (l : List UInt8) : Soft l 0 45 := ⟨by omega, fun _ _ h => absurd h (by omega), fun _ h => absurd h (by omega), fun _ => rfl, fun _ h => absurd h (by omega)⟩
theorem soft_step {l : List UInt8} {pos : Nat} {last : Int} (h : Soft l pos last) (hp : pos < l.length) (hs : isSign l[pos] = true) (hl : pos = 0 → isLetter l[pos] = true) : Soft l (pos + 1) ((l[pos]).toNat : Int) := by
  obtain ⟨h1, h2, h3, h4, h5⟩ := h
  refine ⟨by omega, fun i hi hlt => ?_, fun h0 _ => ?_, fun h => absurd h (by omega), fun _ _ => by simp⟩
  · by_cases e : i = pos
    · subst e; exact hs
    · exact h2 i hi (by omega)
  · by_cases e : pos = 0
    · subst e; exact hl rfl
    · exact h3 h0 (by omega)
theorem soft_bad {l : List UInt8} {pos : Nat} (most : Int) (hp : pos < l.length) (hs : isSign l[pos] = false ∨ (pos = 0 ∧ isLetter l[pos] = false)) : shortL l most = false := by
  unfold shortL
  rcases hs with hs | ⟨rfl, hs⟩
  · have : l.all isSign = false := by
      rw [List.all_eq_false]
      exact ⟨l[pos], List.getElem_mem hp, by rw [hs]; decide⟩
    rw [this]; rfl
  · cases l with
    | nil => simp at hp
    | cons a l => have : isLetter a = false := hs
                  simp [this]
theorem soft_end {l : List UInt8} {pos : Nat} {last : Int} (most : Int) (h : Soft l pos last) (hp : ¬ pos < l.length) : shortL l most = (!(last == 45) && decide ((l.length : Int) ≤ most)) := by
  obtain ⟨h1, h2, h3, h4, h5⟩ := h
  obtain rfl : pos = l.length := by omega
  unfold shortL
  cases l with
  | nil => rw [h4 rfl]; rfl
  | cons a l =>
    have e1 : (a :: l).all isSign = true := by
      rw [List.all_eq_true]
      intro x hx
      obtain ⟨i, hi, rfl⟩ := List.getElem_of_mem hx
      exact h2 i hi hi
    have e2 : (a :: l).head?.any isLetter = true := by
      have := h3 (by simp) (by simp)
      simpa using this
    rw [e1, e2, h5 (by simp) (by simp), List.getLast?_eq_getElem?, List.getElem?_eq_getElem (by simp)]
    have e3 : ((some ((a :: l)[(a :: l).length - 1]) == some 45) : Bool) = ((((a :: l)[(a :: l).length - 1]).toNat : Int) == 45) := by
      generalize (a :: l)[(a :: l).length - 1] = b
      have : (b = 45) ↔ ((b.toNat : Int) = 45) := ⟨fun e => by subst e; rfl, fun e => UInt8.toNat_inj.1 (by show b.toNat = 45; omega)⟩
      by_cases hb : b = 45
      · subst hb; rfl
      · have h2 := mt this.2 hb
        rw [show ((some b == some (45 : UInt8)) : Bool) = false from beq_eq_false_iff_ne.2 (fun e => hb (Option.some.inj e))]
        exact (beq_eq_false_iff_ne.2 h2).symm
    rw [e3]
    simp
theorem pick_tt (a b : Bool) : (if a then Value.bool true else Value.bool b) = Value.bool (a || b) := by cases a <;> rfl
set_option maxHeartbeats 8000000 in
set_option maxRecDepth 100000 in
theorem label_short.calls (a0 : ByteArray) (a1 : Int) (r : Bool) (w : World) (h : label_short.f a0 a1 = some r) :
    Calls Tryd.prog 71 #[.string a0, .int .i64 a1] w fun e w' => e = .returned (.bool r) ∧ Below w.heap.size w w' := by
  have hr : shortL a0.data.toList a1 = r := Option.some.inj h
  clear h
  go_enter Tryd.func71, Tryd.ntmps71
  go_wp2
  go_loopw [5] (fun n w' => ∃ (pos : Nat) (last : Int), w' = w.iter a0 pos ∧ n = .int .i32 last ∧ Hid (Soft a0.data.toList pos last)) (fun _ w' => a0.size - w'.iterPos w.heap.size)
  case atStart => exact ⟨0, 45, rfl, rfl, soft_zero _⟩
  case round =>
    obtain ⟨pos, last, rfl, rfl, hc⟩ := hrel
    have hbel : ∀ p, Below w.heap.size w (w.iter a0 p) := fun p => (Below.refl _ w).alloc (Nat.le_refl _) _
    by_cases hp : pos < a0.size
    · have hnx : ∀ ty, (Instr.next (.pointer (some ⟨w.heap.size, 0, none⟩)) true ty).run Tryd.prog (w.iter a0 pos) = _ := fun ty => run_next_any w a0 pos ty hp
      have hpl : pos < a0.data.toList.length := hp
      have hb : a0[pos]'hp = a0.data.toList[pos]'hpl := rfl
      by_cases ha : (a0[pos]'hp).toNat < 128
      · rw [decode_ascii a0 pos hp ha] at hnx
        cases hs : isSign (a0[pos]'hp) with
        | false =>
          have hs' := isSign_int (a0[pos]'hp)
          rw [hs] at hs'
          have hf := soft_bad a1 hpl (.inl (hb ▸ hs))
          have hw := sign_walk ((a0[pos]'hp).toNat : Int)
          rw [hs'] at hw
          go_wp2_with (go_at_call 83; refine (hw _).mono ?_; rintro e w' ⟨rfl, rfl⟩)
          go_wp2
          go_ret
          exact ⟨by rw [← hr, hf]; rfl, hbel _⟩
        | true => 
          have hs' := isSign_int (a0[pos]'hp)
          rw [hs] at hs'
          have hw := sign_walk ((a0[pos]'hp).toNat : Int)
          rw [hs'] at hw
          by_cases h0 : pos = 0
          · subst h0
            have e0 : (w.iter a0 (0 + 1)) = w.iter a0 1 := rfl
            cases hl : isLetter (a0[0]'hp) with
            | false =>
              have hl' := isLetter_int (a0[0]'hp)
              rw [hl] at hl'
              have hf := soft_bad a1 hpl (.inr ⟨rfl, hb ▸ hl⟩)
              have hw2 := letter_walk ((a0[0]'hp).toNat : Int)
              rw [hl'] at hw2
              go_wp2_with (first | (go_at_call 83; refine (hw _).mono ?_; rintro e w' ⟨rfl, rfl⟩) | (go_at_call 84; refine (hw2 _).mono ?_; rintro e w' ⟨rfl, rfl⟩))
              go_wp2
              go_ret
              exact ⟨by rw [← hr, hf]; rfl, hbel _⟩
            | true =>
              have hl' := isLetter_int (a0[0]'hp)
              rw [hl] at hl'
              have hw2 := letter_walk ((a0[0]'hp).toNat : Int)
              rw [hl'] at hw2
              go_wp2_with (first | (go_at_call 83; refine (hw _).mono ?_; rintro e w' ⟨rfl, rfl⟩) | (go_at_call 84; refine (hw2 _).mono ?_; rintro e w' ⟨rfl, rfl⟩))
              go_wp2
              go_roundw
              case rel => exact ⟨0 + 1, _, rfl, rfl, soft_step hc.out hpl (hb ▸ hs) (fun _ => hb ▸ hl)⟩
              case measure => simp; omega
          · have h0' : ((pos : Int) == 0) = false := beq_eq_false_iff_ne.2 (by omega)
            go_wp2_with (first | (go_at_call 83; refine (hw _).mono ?_; rintro e w' ⟨rfl, rfl⟩))
            go_wp2
            go_roundw
            case rel => exact ⟨pos + 1, _, rfl, rfl, soft_step hc.out hpl (hb ▸ hs) (fun h => absurd h h0)⟩
            case measure => simp; omega
      · have hd := (decode_high a0 pos hp (by omega)).1
        have hw := sign_walk ((Utf8.decode a0 pos).1 : Int)
        rw [sign_high _ hd] at hw
        have hf := soft_bad a1 hpl (.inl (hb ▸ not_sign_high (a0[pos]'hp) (by omega)))
        go_wp2_with (go_at_call 83; refine (hw _).mono ?_; rintro e w' ⟨rfl, rfl⟩)
        go_wp2
        go_ret
        exact ⟨by rw [← hr, hf]; rfl, hbel _⟩
    · have hnx : ∀ ty, (Instr.next (.pointer (some ⟨w.heap.size, 0, none⟩)) true ty).run Tryd.prog (w.iter a0 pos) = _ := fun ty => run_next_end w a0 pos ty hp
      rw [soft_end a1 hc.out hp] at hr
      by_cases h45 : last = 45
      · subst h45
        go_wp2
        go_ret
        exact ⟨by rw [← hr]; rfl, hbel _⟩
      · rw [show (last == 45) = false from beq_eq_false_iff_ne.2 h45] at hr
        have hb1 : (last != 45) = true := by rw [bne, beq_eq_false_iff_ne.2 h45]; rfl
        have hb2 : (last == 45) = false := beq_eq_false_iff_ne.2 h45
        have hb3 : (last = 45) = False := eq_false h45
        have hb4 : decide (last = 45) = false := decide_eq_false h45
        go_wp2
        go_ret
        exact ⟨by rw [← hr]; rfl, hbel _⟩

/-! ### label_Name: function 70 -/
def label_Name.f (a0 : ByteArray) : Option (Bool) := (label_short.f a0 16).bind fun t147 => (some t147)
set_option maxHeartbeats 8000000 in
set_option maxRecDepth 100000 in
theorem label_Name.calls (a0 : ByteArray) (r : Bool) (w : World) (h : label_Name.f a0 = some r) :
    Calls Tryd.prog 70 #[.string a0] w fun e w' => e = .returned (.bool r) ∧ Below w.heap.size w w' := by
  have HB := Aside0.mk (Below.refl w.heap.size w)
  have H : ((label_short.f a0 16).bind fun t147 => (some t147)) = some r := h
  clear h
  replace H := Option.bind_eq_some_iff.mp H
  obtain ⟨t147, A20, H⟩ := H
  replace H : (some t147) = some r := H
  have A2 := Aside0.mk A20
  clear A20
  obtain rfl := Option.some.inj H
  go_enter Tryd.func70, Tryd.ntmps70
  go_wp2_with (first | ((with_reducible refine gate_callee (f := 71) rfl ?_); refine goesL_ (some 4) rfl rfl Tryd.func71 (by kernel_rfl) rfl #[.string a0, .int .i64 16] rfl (by (try simp only [List.map_toArray, List.map_cons, List.map_nil]); first | done | rfl | (simp only [List.length_drop, List.length_take]; rfl)) ?_; (with_reducible refine (label_short.calls a0 16 t147 _ A2.out).mono ?_); rintro e w3 ⟨rfl, hb⟩; refine ⟨_, rfl, ?_⟩; have n0_ := Aside0.mk (below_step (by repeat (first | (with_reducible first | exact HB.out | apply below_alloc | apply pw_below_drewN | apply below_drew1) | exact HB.out)) hb); clear HB; have HB := n0_; clear n0_; (try clear hb); (try clear hb2); (try clear hk); (try clear hi)))
  go_ret
  exact ⟨by first | rfl | (simp [errW_none, errW_some] <;> rfl) | (simp [*, errW_none, errW_some] <;> rfl), by repeat (first | (with_reducible first | exact HB.out | apply below_alloc | apply pw_below_drewN | apply below_drew1) | exact HB.out)⟩

end Go.Proofs.YtalpoojepffldaaDoor.Ma
