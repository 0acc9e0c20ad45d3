-- Written by a program of this session (wip/tools/myprint.py), in the form of the kit's print. Not trusted: Lean checks it.
import Derived.Test.YtalpoojepffldaaDoorMax0
import Derived.Test.YtalpoojepffldaaDoorMax21
import Derived.Test.YtalpoojepffldaaDoorMax22
import Derived.Test.YtalpoojepffldaaDoorMax23
import Derived.Test.YtalpoojepffldaaDoorMax37
namespace Go.Proofs.YtalpoojepffldaaDoor.Ma
open Go.RowKit Go.Proofs.YtalpoojepffldaaDoorW.PrintWords Go.Proofs.YtalpoojepffldaaDoorW.PrintLast Go.Proofs.YtalpoojepffldaaDoorW.PrintMore
attribute [local go_sem] max2_int min2_int max_two min_two max_three min_three max_four min_four   -- for this text's walks alone
set_option linter.unusedVariables false
set_option linter.unusedSimpArgs false

/-! ### damperlaw3_EventCuts: function 5 -/
/-- How much of a row is laid. -/
def cutM (r : List Int) : Nat := if 300 < r.length then 300 else r.length
/-- What is laid of one row: its length, in two bytes, and what it is. -/
def cutRow (r : List Int) : List Int := [((cutM r : Int) / 256) % 256, (cutM r : Int) % 256] ++ r.take (cutM r)
def flatRows (l : List (List Int)) : List Int := l.flatMap cutRow
/-- The program's pieces are the document's. -/
def sameCut (k : Nat) (x : List Int) : Bool := match event_Cut.f x, damperref3_Cut.f k x with
  | some X, some Y => X == Y
  | _, _ => false
theorem sameCut_some {k : Nat} {x : List Int} (h : sameCut k x = true) : ∃ X, event_Cut.f x = some X ∧ damperref3_Cut.f k x = some X := by
  unfold sameCut at h
  split at h
  · rename_i X Y h1 h2
    exact ⟨X, h1, by rw [h2]; congr 1; exact (eq_of_beq h).symm⟩
  · cases h
def cutAt (a2 : Int) (b : List Int) : Nat := (wi a2 (wrap64 ((b.length : Int) + 1))).toNat
def damperlaw3_EventCuts.f (k : Nat) (l0 : List Int) (l1 : List (List Int)) (a2 : Int) : Option Bool :=
  if damperlaw3_known.f = some true then
    if 300 < l0.length ∨ 12 < l1.length then some true
    else if (sameCut k l0 = true ∧ sameCut k (flatRows l1) = true ∧ sameCut k ((flatRows l1).take (cutAt a2 (flatRows l1))) = true) ∧ event_Cut.f (flatRows l1) = some (l1.map fun x => x.take (cutM x)) then some true else none
  else none
theorem cutRow_len (r : List Int) : (cutRow r).length ≤ 302 := by
  unfold cutRow cutM
  split <;> simp <;> omega
theorem flatRows_len : ∀ l : List (List Int), (flatRows l).length ≤ l.length * 302
  | [] => by simp [flatRows]
  | r :: l => by
    have h1 := cutRow_len r
    have h2 := flatRows_len l
    simp only [flatRows, List.flatMap_cons, List.length_append, List.length_cons] at h2 ⊢
    omega
theorem flatRows_snoc (l : List (List Int)) (i : Nat) (h : i < l.length) : flatRows (l.take (i + 1)) = (flatRows (l.take i) ++ [((cutM l[i] : Int) / 256) % 256, (cutM l[i] : Int) % 256]) ++ l[i].take (cutM l[i]) := by
  unfold flatRows
  rw [List.take_add_one, List.getElem?_eq_getElem h, List.flatMap_append]
  simp [cutRow]
theorem toV {w : World} {A : Option Addr} {c : Nat} {l : List Int} (h : Kd.C (Kd.int .u8) w A l.length l) (hc : l.length ≤ c) : Kd.V (Kd.int .u8) 5 w w.heap.size (fun _ => True) (.slice A l.length c) l :=
  Kd.V_mk hc (fun W' hW => Ev.C_keep_ h (fun k hk => hW k trivial hk))
attribute [local go_sem] min2_int min_two
set_option maxHeartbeats 8000000 in
set_option maxRecDepth 100000 in
theorem damperlaw3_EventCuts.calls (k : Nat) (A0 : Option Addr) (c0 : Nat) (l0 : List Int) (A1 : Option Addr) (c1 : Nat) (l1 : List (List Int)) (a2 : Int) (r : Bool) (w : World) (hLd_ : Aside0 (LaidW w)) (hr0 : Kd.C (Kd.int .u8) w A0 l0.length l0) (hc0 : l0.length ≤ c0) (hr1 : Kd.C (Kd.slice 5 (Kd.int .u8)) w A1 l1.length l1) (hc1 : l1.length ≤ c1) (hr0_ : Aside0 (r = true)) (h : damperlaw3_EventCuts.f k l0 l1 a2 = some r) :
    Calls Tryd.prog 5 #[.slice A0 l0.length c0, .slice A1 l1.length c1, .int .i64 a2] w fun e w' => e = .returned (.bool r) ∧ Below w.heap.size w w' := by
  unfold damperlaw3_EventCuts.f at h
  split at h
  case isFalse => cases h
  rename_i hkn
  have hcl0 := damperlaw3_known.calls true w hLd_ hkn
  split at h
  · rename_i hbig
    obtain rfl := Option.some.inj h
    have p0 : (300 < l0.length) = decide (300 < l0.length) := by simp
    by_cases hb1 : 300 < l0.length
    · have d1 : decide (300 < (l0.length : Int)) = true := decide_eq_true (by omega)
      go_enter Tryd.func5, Tryd.ntmps5
      go_wp2_with fail
      refine hcl0.mono ?_
      rintro e w1 ⟨rfl, hB⟩
      go_wp2_with fail
      go_ret
      exact ⟨rfl, hB⟩
    · have hb2 : 12 < l1.length := by omega
      have d1 : decide (300 < (l0.length : Int)) = false := decide_eq_false (by omega)
      have d2 : decide (12 < (l1.length : Int)) = true := decide_eq_true (by omega)
      go_enter Tryd.func5, Tryd.ntmps5
      go_wp2_with fail
      refine hcl0.mono ?_
      rintro e w1 ⟨rfl, hB⟩
      go_wp2_with fail
      go_ret
      exact ⟨rfl, hB⟩
  rename_i hsmall
  split at h
  case isFalse => cases h
  rename_i hall
  obtain rfl := Option.some.inj h
  have hn0 : l0.length ≤ 300 := by omega
  have hn1 : l1.length ≤ 12 := by omega
  have HR0 := Aside0.mk hr0
  have HC0 := Aside0.mk hc0
  have HR1 := Aside0.mk hr1
  have HC1 := Aside0.mk hc1
  have HALL := Aside0.mk hall
  have d1 : decide (300 < (l0.length : Int)) = false := decide_eq_false (by omega)
  have d2 : decide (12 < (l1.length : Int)) = false := decide_eq_false (by omega)
  clear hr0 hc0 hr1 hc1 hall hsmall h hkn hr0_
  go_enter Tryd.func5, Tryd.ntmps5
  go_wp2_with fail
  refine hcl0.mono ?_
  rintro e w1 ⟨rfl, hB⟩
  have HB := Aside0.mk hB
  clear hB hcl0
  go_wp2_with fail
  go_loopw [7, 8] (fun v7 v8 wr => ∃ i : Nat, v8 = .int .i64 (i : Int) ∧ i ≤ l1.length ∧ Aside0 (Kd.R (Kd.int .u8) 5 wr w.heap.size (fun _ => True) v7 (flatRows (l1.take i))) ∧ Aside0 (Below w.heap.size w wr)) (fun v7 v8 wr => l1.length - (intOf v8).toNat)
  case atStart => exact ⟨0, rfl, by omega, ⟨Kd.R_nil _ _ _ _ _⟩, HB⟩
  case round =>
    obtain ⟨i, rfl, hi, HO, HBr⟩ := hrel
    by_cases hlt : i < l1.length
    · obtain ⟨ad, Ar, cr, rfl, kx, hlc, hCr⟩ := at_L4 HR1.out (i : Int) (by omega) (by omega)
      have hrow : rd_L4 l1 (i : Int) = l1[i] := by simp [rd_L4, List.getD_eq_getElem?_getD, List.getElem?_eq_getElem hlt]
      rw [hrow] at kx hlc hCr
      have kx2 := (HBr.out.cell (World.block_lt_of_cell? _ _ kx)).trans kx
      have hsn := flatRows_snoc l1 i hlt
      obtain ⟨x, hx⟩ : ∃ x, l1[i] = x := ⟨_, rfl⟩
      rw [hx] at kx kx2 hlc hCr hsn
      obtain ⟨A7, c7, rfl⟩ := Kd.R_slice HO.out
      have e1 : (i : Int) < (l1.length : Int) := by omega
      have d3 : decide ((i : Int) < (l1.length : Int)) = true := decide_eq_true e1
      have e0 : (0 : Int) ≤ (i : Int) := by omega
      have e2 := eq_true e0
      have e3 := eq_true e1
      rw [show ((i : Int)).toNat = i from by omega] at kx kx2
      obtain ⟨N, hN, hNl, hN3⟩ : ∃ N, cutM x = N ∧ N ≤ x.length ∧ N ≤ 300 := ⟨_, rfl, by unfold cutM; split <;> omega, by unfold cutM; split <;> omega⟩
      have hmn : (if (300 : Int) < (x.length : Int) then (300 : Int) else (x.length : Int)) = (N : Int) := by rw [← hN]; unfold cutM; split <;> split <;> omega
      rw [hN] at hsn
      have hCt := Kd.C_take hCr hNl
      have hlt_ : (x.take N).length = N := by rw [List.length_take]; omega
      rw [hlt_] at hCt
      have n1 : ((N : Int) ≤ (cr : Int)) = True := eq_true (by omega)
      have hfl := flatRows_len (l1.take i)
      rw [List.length_take] at hfl
      go_wp2_with fail
      refine start_ (n := 16) (S := fun w' => w'.cell? (ad.add i) = some (.slice Ar x.length cr)) (ds := []) #[false, false, false, false, false, false, false, false, false, false, false, false, false, false, false, false] (by kernel_rfl) rfl rfl (kx2) (fun hHeld => ?_)
      refine pure_ (i := 0) (N := some 39) (v := ?_) (a' := ?_) #[true, false, false, false, false, false, false, false, false, false, false, false, false, false, false, false] rfl rfl (by kernel_rfl) (fun _ _ _ h => h) (Or.inl ⟨by rfl, ?_⟩) ?_ ?_
      rotate_left
      · intro w'
        go_simp
        with_reducible rfl
      rotate_left
      · simp only [Act.put, List.setIfInBounds_toArray, List.set_cons_zero, List.set_cons_succ, i64_w, i32_w]
        rfl
      refine pure_ (i := 1) (N := some 40) (v := ?_) (a' := ?_) #[true, true, false, false, false, false, false, false, false, false, false, false, false, false, false, false] rfl rfl (by kernel_rfl) (fun _ _ _ h => h) (Or.inl ⟨by rfl, ?_⟩) ?_ ?_
      rotate_left
      · intro w'
        go_simp
        with_reducible rfl
      rotate_left
      · simp only [Act.put, List.setIfInBounds_toArray, List.set_cons_zero, List.set_cons_succ, i64_w, i32_w]
        rfl
      refine pure_ (i := 2) (N := some 41) (v := ?_) (a' := ?_) #[true, true, true, false, false, false, false, false, false, false, false, false, false, false, false, false] rfl rfl (by kernel_rfl) (fun _ _ _ h => h) (Or.inl ⟨by rfl, ?_⟩) ?_ ?_
      rotate_left
      · intro w'
        go_simp
        with_reducible rfl
      rotate_left
      · simp only [Act.put, List.setIfInBounds_toArray, List.set_cons_zero, List.set_cons_succ, i64_w, i32_w]
        rfl
      refine pure_ (i := 3) (N := some 42) (v := ?_) (a' := ?_) #[true, true, true, true, false, false, false, false, false, false, false, false, false, false, false, false] rfl rfl (by kernel_rfl) (fun _ _ _ h => h) (Or.inl ⟨by rfl, ?_⟩) ?_ ?_
      rotate_left
      · intro w'
        go_simp
        with_reducible rfl
      rotate_left
      · simp only [Act.put, List.setIfInBounds_toArray, List.set_cons_zero, List.set_cons_succ, i64_w, i32_w]
        rfl
      refine pure_ (i := 4) (N := some 43) (v := ?_) (a' := ?_) #[true, true, true, true, true, false, false, false, false, false, false, false, false, false, false, false] rfl rfl (by kernel_rfl) (fun _ _ _ h => h) (Or.inl ⟨by rfl, ?_⟩) ?_ ?_
      rotate_left
      · intro w'
        go_simp
        with_reducible rfl
      rotate_left
      · simp only [Act.put, List.setIfInBounds_toArray, List.set_cons_zero, List.set_cons_succ, i64_w, i32_w]
        rfl
      refine pure_ (i := 5) (N := some 44) (v := ?_) (a' := ?_) #[true, true, true, true, true, true, false, false, false, false, false, false, false, false, false, false] rfl rfl (by kernel_rfl) (fun _ _ _ h => h) (Or.inl ⟨by rfl, ?_⟩) ?_ ?_
      rotate_left
      · intro w'
        go_simp
        with_reducible rfl
      rotate_left
      · simp only [Act.put, List.setIfInBounds_toArray, List.set_cons_zero, List.set_cons_succ, i64_w, i32_w]
        rfl
      refine pure_ (i := 8) (N := some 47) (v := ?_) (a' := ?_) #[true, true, true, true, true, true, false, false, true, false, false, false, false, false, false, false] rfl rfl (by kernel_rfl) (fun _ _ _ h => h) (Or.inl ⟨by rfl, ?_⟩) ?_ ?_
      rotate_left
      · intro w'
        go_simp
        with_reducible rfl
      rotate_left
      · simp only [Act.put, List.setIfInBounds_toArray, List.set_cons_zero, List.set_cons_succ, i64_w, i32_w]
        rfl
      refine pure_ (i := 9) (N := some 48) (v := ?_) (a' := ?_) #[true, true, true, true, true, true, false, false, true, true, false, false, false, false, false, false] rfl rfl (by kernel_rfl) (fun _ _ _ h => h) (Or.inl ⟨by rfl, ?_⟩) ?_ ?_
      rotate_left
      · intro w'
        go_simp
        with_reducible rfl
      rotate_left
      · simp only [Act.put, List.setIfInBounds_toArray, List.set_cons_zero, List.set_cons_succ, i64_w, i32_w]
        rfl
      refine pure_ (i := 10) (N := some 49) (v := ?_) (a' := ?_) #[true, true, true, true, true, true, false, false, true, true, true, false, false, false, false, false] rfl rfl (by kernel_rfl) (fun _ _ _ h => h) (Or.inl ⟨by rfl, ?_⟩) ?_ ?_
      rotate_left
      · intro w'
        go_simp
        with_reducible rfl
      rotate_left
      · simp only [Act.put, List.setIfInBounds_toArray, List.set_cons_zero, List.set_cons_succ, i64_w, i32_w]
        rfl
      refine pure_ (i := 12) (N := some 51) (v := ?_) (a' := ?_) #[true, true, true, true, true, true, false, false, true, true, true, false, true, false, false, false] rfl rfl (by kernel_rfl) (fun _ _ _ h => h) (Or.inl ⟨by rfl, ?_⟩) ?_ ?_
      rotate_left
      · intro w'
        go_simp
        with_reducible rfl
      rotate_left
      · simp only [Act.put, List.setIfInBounds_toArray, List.set_cons_zero, List.set_cons_succ, i64_w, i32_w]
        rfl
      refine take_ (i := 11) (N := some 50) (v := ?_) (a' := ?_) #[true, true, true, true, true, true, false, false, true, true, true, true, true, false, false, false] rfl rfl (by kernel_rfl) (fun _ _ _ h => h) (Or.inl ⟨by rfl, ?_⟩) hHeld ?_ ?_
      rotate_left
      · intro w' s0
        go_simp
        with_reducible rfl
      rotate_left
      · simp only [Act.put, List.setIfInBounds_toArray, List.set_cons_zero, List.set_cons_succ, i64_w, i32_w]
        rfl
      refine pure_ (i := 13) (N := some 52) (v := ?_) (a' := ?_) #[true, true, true, true, true, true, false, false, true, true, true, true, true, true, false, false] rfl rfl (by kernel_rfl) (fun _ _ _ h => h) (Or.inl ⟨by rfl, ?_⟩) ?_ ?_
      rotate_left
      · intro w'
        go_simp
        with_reducible rfl
      rotate_left
      · simp only [Act.put, List.setIfInBounds_toArray, List.set_cons_zero, List.set_cons_succ, i64_w, i32_w]
        rfl
      refine one_ (i := 6) (N := some 45) #[true, true, true, true, true, true, true, false, true, true, true, true, true, true, false, false] rfl rfl (by kernel_rfl) (by decide) (fun K hK => ?_)
      refine value_ (w1 := ?_) (v := ?_) (by rfl) rfl ?_ ?_
      rotate_left 2
      · go_simp
        constructor
        · rfl
        · rfl
      refine hK.out _ _ (((below_alloc (below_drew1 HBr.out) _).cell (World.block_lt_of_cell? _ _ kx)).trans kx) (fun hHeld => ?_)
      clear hK K
      refine norm_ (a' := ?_) ?_ ?_
      rotate_left
      · show Act.put _ (some 45) _ = _
        simp only [Act.put, List.setIfInBounds_toArray, List.set_cons_zero, List.set_cons_succ, i64_w, i32_w]
        rfl
      refine one_ (i := 7) (N := some 46) #[true, true, true, true, true, true, true, true, true, true, true, true, true, true, false, false] rfl rfl (by kernel_rfl) (by decide) (fun K hK => ?_)
      refine Kd.R_append_rows_step (Kd.int .u8) (w0 := w) w.heap.size (by rfl) _ _ 41 5 (.int .u8 0) 1 rfl Tryd.underlying41 (by kernel_rfl) rfl (by decide) (by decide) _ (flatRows (l1.take i)) [((N : Int) / 256) % 256, (N : Int) % 256] (some ⟨wr.heap.size, 0, none⟩) 2 2 (fun _ => True) (fun _ => False) (by rfl) (by rfl) (Kd.R_alloc (Kd.R_drew HO.out) _) (Ev.ints_row [((N : Int) / 256) % 256, (N : Int) % 256] (blk_new _ _) rfl (by simp)) (fun _ _ h => h) (fun _ h => h.elim) (fun _ _ => trivial) (below_alloc (below_drew1 HBr.out) _) ((below_alloc (below_drew1 HBr.out) _)).size ?hl ?_
      case hl => (try simp only [List.length_append, List.length_cons, List.length_nil]) <;> omega
      intro v2 w2 hR2 hb2 hg2 hat2
      have HO2 := Aside0.mk hR2
      have HB2 := Aside0.mk hb2
      clear hg2 hat2 hR2 hb2
      obtain ⟨A2, c2, rfl⟩ := Kd.R_slice HO2.out
      refine hK.out _ _ ((HB2.out.cell (World.block_lt_of_cell? _ _ kx)).trans kx) (fun hHeld => ?_)
      clear hK K
      refine norm_ (a' := ?_) ?_ ?_
      rotate_left
      · show Act.put _ (some 46) _ = _
        simp only [Act.put, List.setIfInBounds_toArray, List.set_cons_zero, List.set_cons_succ, i64_w, i32_w]
        rfl
      refine one_ (i := 14) (N := some 53) #[true, true, true, true, true, true, true, true, true, true, true, true, true, true, true, false] rfl rfl (by kernel_rfl) (by decide) (fun K hK => ?_)
      refine Kd.R_append_rows_step (Kd.int .u8) (w0 := w) w.heap.size (by rfl) _ _ 41 5 (.int .u8 0) 1 rfl Tryd.underlying41 (by kernel_rfl) rfl (by decide) (by decide) _ (flatRows (l1.take i) ++ [((N : Int) / 256) % 256, (N : Int) % 256]) (x.take N) Ar N cr (fun _ => True) (fun _ => False) (by rfl) (by rfl) HO2.out (Kd.C_below hCt HB2.out) (fun _ _ h => h) (fun _ h => h.elim) (fun _ _ => trivial) HB2.out (HB2.out).size ?hl ?_
      case hl => (try simp only [List.length_append, List.length_cons, List.length_nil]) <;> omega
      intro v3 w3 hR3 hb3 hg3 hat3
      rw [← hsn] at hR3
      have HO3 := Aside0.mk hR3
      have HB3 := Aside0.mk hb3
      clear hg3 hat3 hR3 hb3
      refine hK.out _ _ ((HB3.out.cell (World.block_lt_of_cell? _ _ kx)).trans kx) (fun hHeld => ?_)
      clear hK K
      refine norm_ (a' := ?_) ?_ ?_
      rotate_left
      · show Act.put _ (some 53) _ = _
        simp only [Act.put, List.setIfInBounds_toArray, List.set_cons_zero, List.set_cons_succ, i64_w, i32_w]
        rfl
      refine pure_ (i := 15) (N := some 7) (v := ?_) (a' := ?_) #[true, true, true, true, true, true, true, true, true, true, true, true, true, true, true, true] rfl rfl (by kernel_rfl) (fun _ _ _ h => h) (Or.inl ⟨by rfl, ?_⟩) ?_ ?_
      rotate_left
      · intro w'
        go_simp
        with_reducible rfl
      rotate_left
      · simp only [Act.put, List.setIfInBounds_toArray, List.set_cons_zero, List.set_cons_succ, i64_w, i32_w]
        rfl
      refine done_ (by kernel_rfl) ?_
      have hx2 : wrap64 ((i : Int) + 1) = ((i + 1 : Nat) : Int) := by unfold wrap64; omega
      obtain ⟨A3, c3, rfl⟩ := Kd.R_slice HO3.out
      clear hsn hrow hx hfl hmn hHeld hCt hCr hN HO HO2 HB2 HBr kx kx2
      go_wp2_with fail
      go_roundw
      case rel => exact ⟨i + 1, by first | rfl | rw [hx2], by omega, HO3, HB3⟩
      case measure => simp [intOf]; omega
    · obtain rfl : i = l1.length := by omega
      rw [List.take_length] at HO
      have d3 : decide ((l1.length : Int) < (l1.length : Int)) = false := decide_eq_false (by omega)
      obtain ⟨A7, c7, rfl⟩ := Kd.R_slice HO.out
      obtain ⟨_, hc7, hC7⟩ := Kd.R_reads' HO.out
      have hfl := flatRows_len l1
      obtain ⟨b, hb⟩ : ∃ b, flatRows l1 = b := ⟨_, rfl⟩
      rw [hb] at HO hc7 hC7 hfl HALL
      have hw1 : wrap64 ((b.length : Int) + 1) = (b.length : Int) + 1 := by unfold wrap64; omega
      have hwi := damperlaw3_within.keep a2 ((b.length : Int) + 1) rfl (by omega)
      obtain ⟨hj0, hj1⟩ := wi_bd (a := a2) (b := (b.length : Int) + 1) rfl (by omega) (by omega)
      obtain ⟨J, hJ⟩ : ∃ J : Nat, wi a2 ((b.length : Int) + 1) = (J : Int) := ⟨(wi a2 ((b.length : Int) + 1)).toNat, by omega⟩
      have hcut : cutAt a2 b = J := by unfold cutAt; rw [hw1, hJ]; rfl
      rw [hJ] at hj0 hj1 hwi
      rw [hcut] at HALL
      have HWI := Aside0.mk hwi
      have n1 : ((J : Int) ≤ (c7 : Int)) = True := eq_true (by omega)
      clear hwi
      go_wp2_with fail
      refine (HWI.out _).mono ?_
      rintro e w3 ⟨rfl, rfl⟩
      go_wp2_with fail
      obtain ⟨g2, hg2⟩ : ∃ g2, wr.heap.size = g2 := ⟨_, rfl⟩
      obtain ⟨W2, hW2⟩ : ∃ W2, wr.alloc (.cells #[.slice A0 l0.length c0, .slice A7 b.length c7, .slice A7 J c7] 41) = W2 := ⟨_, rfl⟩
      have hbl : W2.heap[g2]? = some (.cells #[.slice A0 l0.length c0, .slice A7 b.length c7, .slice A7 J c7] 41 (0, 0)) := by rw [← hW2, ← hg2]; exact blk_new _ _
      have hB2 : Below w.heap.size w W2 := by rw [← hW2]; exact below_alloc HBr.out _
      have hC0 : Kd.C (Kd.int .u8) W2 A0 l0.length l0 := Kd.C_below HR0.out hB2
      have hC1 : Kd.C (Kd.int .u8) W2 A7 b.length b := by rw [← hW2]; exact Kd.C_alloc hC7 _
      have hC2 : Kd.C (Kd.int .u8) W2 A7 J (b.take J) := by
        have h := Kd.C_take hC1 (show J ≤ b.length by omega)
        rwa [show (b.take J).length = J by rw [List.length_take]; omega] at h
      obtain ⟨⟨hs0, hs1, hs2⟩, hfin⟩ := HALL.out
      have HEL : Aside0 (∀ i : Nat, i < 3 → ∃ A c x X, W2.cell? ⟨g2, i, none⟩ = some (.slice A x.length c) ∧ x.length ≤ c ∧ x.length ≤ 4000 ∧ Kd.C (Kd.int .u8) W2 A x.length x ∧ Aside0 (event_Cut.f x = some X ∧ damperref3_Cut.f k x = some X) ∧ X.length ≤ 4000) := by
        refine ⟨fun i hi => ?_⟩
        have key : ∀ x X, event_Cut.f x = some X → x.length ≤ 4000 → X.length ≤ 4000 := by
          intro x X h hx
          unfold event_Cut.f at h
          split at h
          · have := cutO_len _ _ _ h
            omega
          · cases h
        rcases (show i = 0 ∨ i = 1 ∨ i = 2 by omega) with rfl | rfl | rfl
        · obtain ⟨X, h1, h2⟩ := sameCut_some hs0
          exact ⟨A0, c0, l0, X, (blk_cell hbl 0).trans rfl, HC0.out, by omega, hC0, ⟨h1, h2⟩, key _ _ h1 (by omega)⟩
        · obtain ⟨X, h1, h2⟩ := sameCut_some hs1
          exact ⟨A7, c7, b, X, (blk_cell hbl 1).trans rfl, hc7, by omega, hC1, ⟨h1, h2⟩, key _ _ h1 (by omega)⟩
        · obtain ⟨X, h1, h2⟩ := sameCut_some hs2
          have hl2 : (b.take J).length = J := by rw [List.length_take]; omega
          exact ⟨A7, c7, b.take J, X, by rw [hl2]; exact (blk_cell hbl 2).trans rfl, by omega, by omega, by rw [hl2]; exact hC2, ⟨h1, h2⟩, key _ _ h1 (by omega)⟩
      have HB2 := Aside0.mk hB2
      have HCB := Aside0.mk hC1
      have HFIN := Aside0.mk hfin
      have HW2 := Aside0.mk hW2
      have HG2 := Aside0.mk hg2
      (try rw [hg2])
      (try rw [hW2])
      clear hg2 hW2 hbl hB2 hC0 hC1 hC2 hs0 hs1 hs2 hfin HO hC7 HBr hfl hj0 hj1 hcut hb hJ HALL HWI hw1
      go_loopw [11] (fun v11 wr => ∃ i : Nat, v11 = .int .i64 (i : Int) ∧ i ≤ 3 ∧ Aside0 (Below W2.heap.size W2 wr)) (fun v11 wr => 3 - (intOf v11).toNat)
      case atStart => exact ⟨0, rfl, by omega, ⟨Below.refl _ _⟩⟩
      case round =>
        obtain ⟨i, rfl, hi, HBr⟩ := hrel
        by_cases hlt : i < 3
        · obtain ⟨A, c, x, X, kx, hlc, hxl, hCx, HX, hXl⟩ := HEL.out i hlt
          have kx2 := (HBr.out.cell (World.block_lt_of_cell? _ _ kx)).trans kx
          have d3 : decide ((i : Int) < 3) = true := decide_eq_true (by omega)
          have e2 : (0 ≤ (i : Int)) = True := eq_true (by omega)
          have e3 : ((i : Int) < 3) = True := eq_true (by omega)
          have e4 : (i < 3) = True := eq_true (by omega)
          go_wp2_with fail
          refine start_ (n := 14) (S := fun w' => w'.cell? ⟨g2, i, none⟩ = some (.slice A x.length c)) (ds := []) #[false, false, false, false, false, false, false, false, false, false, false, false, false, false] (by kernel_rfl) rfl rfl (kx2) (fun hHeld => ?_)
          refine pure_ (i := 1) (N := some 69) (v := ?_) (a' := ?_) #[false, true, false, false, false, false, false, false, false, false, false, false, false, false] rfl rfl (by kernel_rfl) (fun _ _ _ h => h) (Or.inl ⟨by rfl, ?_⟩) ?_ ?_
          rotate_left
          · intro w'
            go_simp
            with_reducible rfl
          rotate_left
          · simp only [Act.put, List.setIfInBounds_toArray, List.set_cons_zero, List.set_cons_succ, i64_w, i32_w]
            rfl
          refine pure_ (i := 2) (N := some 70) (v := ?_) (a' := ?_) #[false, true, true, false, false, false, false, false, false, false, false, false, false, false] rfl rfl (by kernel_rfl) (fun _ _ _ h => h) (Or.inl ⟨by rfl, ?_⟩) ?_ ?_
          rotate_left
          · intro w'
            go_simp
            with_reducible rfl
          rotate_left
          · simp only [Act.put, List.setIfInBounds_toArray, List.set_cons_zero, List.set_cons_succ, i64_w, i32_w]
            rfl
          refine pure_ (i := 3) (N := some 71) (v := ?_) (a' := ?_) #[false, true, true, true, false, false, false, false, false, false, false, false, false, false] rfl rfl (by kernel_rfl) (fun _ _ _ h => h) (Or.inl ⟨by rfl, ?_⟩) ?_ ?_
          rotate_left
          · intro w'
            go_simp
            with_reducible rfl
          rotate_left
          · simp only [Act.put, List.setIfInBounds_toArray, List.set_cons_zero, List.set_cons_succ, i64_w, i32_w]
            rfl
          refine pure_ (i := 7) (N := some 75) (v := ?_) (a' := ?_) #[false, true, true, true, false, false, false, true, false, false, false, false, false, false] rfl rfl (by kernel_rfl) (fun _ _ _ h => h) (Or.inl ⟨by rfl, ?_⟩) ?_ ?_
          rotate_left
          · intro w'
            go_simp
            with_reducible rfl
          rotate_left
          · simp only [Act.put, List.setIfInBounds_toArray, List.set_cons_zero, List.set_cons_succ, i64_w, i32_w]
            rfl
          refine pure_ (i := 8) (N := some 76) (v := ?_) (a' := ?_) #[false, true, true, true, false, false, false, true, true, false, false, false, false, false] rfl rfl (by kernel_rfl) (fun _ _ _ h => h) (Or.inl ⟨by rfl, ?_⟩) ?_ ?_
          rotate_left
          · intro w'
            go_simp
            with_reducible rfl
          rotate_left
          · simp only [Act.put, List.setIfInBounds_toArray, List.set_cons_zero, List.set_cons_succ, i64_w, i32_w]
            rfl
          refine pure_ (i := 9) (N := some 77) (v := ?_) (a' := ?_) #[false, true, true, true, false, false, false, true, true, true, false, false, false, false] rfl rfl (by kernel_rfl) (fun _ _ _ h => h) (Or.inl ⟨by rfl, ?_⟩) ?_ ?_
          rotate_left
          · intro w'
            go_simp
            with_reducible rfl
          rotate_left
          · simp only [Act.put, List.setIfInBounds_toArray, List.set_cons_zero, List.set_cons_succ, i64_w, i32_w]
            rfl
          refine take_ (i := 4) (N := some 72) (v := ?_) (a' := ?_) #[false, true, true, true, true, false, false, true, true, true, false, false, false, false] rfl rfl (by kernel_rfl) (fun _ _ _ h => h) (Or.inl ⟨by rfl, ?_⟩) hHeld ?_ ?_
          rotate_left
          · intro w' s0
            go_simp
            with_reducible rfl
          rotate_left
          · simp only [Act.put, List.setIfInBounds_toArray, List.set_cons_zero, List.set_cons_succ, i64_w, i32_w]
            rfl
          refine take_ (i := 10) (N := some 78) (v := ?_) (a' := ?_) #[false, true, true, true, true, false, false, true, true, true, true, false, false, false] rfl rfl (by kernel_rfl) (fun _ _ _ h => h) (Or.inl ⟨by rfl, ?_⟩) hHeld ?_ ?_
          rotate_left
          · intro w' s0
            go_simp
            with_reducible rfl
          rotate_left
          · simp only [Act.put, List.setIfInBounds_toArray, List.set_cons_zero, List.set_cons_succ, i64_w, i32_w]
            rfl
          refine one_ (i := 0) (N := some 68) #[true, true, true, true, true, false, false, true, true, true, true, false, false, false] rfl rfl (by kernel_rfl) (by decide) (fun K hK => ?_)
          refine value_ (w1 := ?_) (v := ?_) (by rfl) rfl ?_ ?_
          rotate_left 2
          · go_simp
            constructor
            · rfl
            · rfl
          refine hK.out _ _ (((below_alloc (below_drew1 HBr.out) _).cell (World.block_lt_of_cell? _ _ kx)).trans kx) (fun hHeld => ?_)
          clear hK K
          refine norm_ (a' := ?_) ?_ ?_
          rotate_left
          · show Act.put _ (some 68) _ = _
            simp only [Act.put, List.setIfInBounds_toArray, List.set_cons_zero, List.set_cons_succ, i64_w, i32_w]
            rfl
          refine one_ (i := 5) (N := some 73) #[true, true, true, true, true, true, false, true, true, true, true, false, false, false] rfl rfl (by kernel_rfl) (by decide) (fun K hK => ?_)
          refine Kd.R_append_rows_step (Kd.int .u8) (w0 := W2) W2.heap.size (by rfl) _ _ 41 5 (.int .u8 0) 1 rfl Tryd.underlying41 (by kernel_rfl) rfl (by decide) (by decide) _ [] x A x.length c (fun _ => True) (fun _ => False) (by rfl) (by rfl) ⟨fun _ _ => trivial, [], World.ownsRow_lit (base := W2.heap.size) (e := 5) (size := 1) wr.drew #[] 0 HBr.out.size (by decide) (by simp), Reps.none _ _⟩ (Kd.C_below hCx (below_alloc (below_drew1 HBr.out) _)) (fun _ _ h => h) (fun _ h => h.elim) (fun _ _ => trivial) (below_alloc (below_drew1 HBr.out) _) ((below_alloc (below_drew1 HBr.out) _)).size ?hl ?_
          case hl => (try simp only [List.length_append, List.length_cons, List.length_nil]) <;> omega
          intro v3 w3 hR3 hb3 hg3 hat3
          rw [List.nil_append] at hR3
          have HO3 := Aside0.mk hR3
          have HB3 := Aside0.mk hb3
          clear hg3 hat3 hR3 hb3
          obtain ⟨A3, c3, rfl⟩ := Kd.R_slice HO3.out
          refine hK.out _ _ ((HB3.out.cell (World.block_lt_of_cell? _ _ kx)).trans kx) (fun hHeld => ?_)
          clear hK K
          refine norm_ (a' := ?_) ?_ ?_
          rotate_left
          · show Act.put _ (some 73) _ = _
            simp only [Act.put, List.setIfInBounds_toArray, List.set_cons_zero, List.set_cons_succ, i64_w, i32_w]
            rfl
          refine one_ (i := 6) (N := some 74) #[true, true, true, true, true, true, true, true, true, true, true, false, false, false] rfl rfl (by kernel_rfl) (by decide) (fun K hK => ?_)
          refine goes_ Tryd.func23 (by kernel_rfl) rfl #[.slice A3 x.length c3] (by rfl) rfl rfl (by simp only [List.map_toArray, List.map_cons, List.map_nil]; rfl) ?_
          with_reducible refine (event_Cut.calls A3 c3 x X w3 (Kd.R_reads' HO3.out).2.2 (Kd.R_reads' HO3.out).2.1 HX.out.1).mono ?_
          rintro e w4 ⟨v4, rfl, hS4, hb4⟩
          refine ⟨_, rfl, ?_⟩
          obtain ⟨A4, c4, rfl⟩ := Kd.S_slice hS4
          have HS4 := Aside0.mk (Kd.S_reads' hS4).2.2
          have HB4 := Aside0.mk (below_step HB3.out hb4)
          clear hS4 hb4
          refine hK.out _ _ ((HB4.out.cell (World.block_lt_of_cell? _ _ kx)).trans kx) (fun hHeld => ?_)
          clear hK K
          refine norm_ (a' := ?_) ?_ ?_
          rotate_left
          · show Act.put _ (some 74) _ = _
            simp only [Act.put, List.setIfInBounds_toArray, List.set_cons_zero, List.set_cons_succ, i64_w, i32_w]
            rfl
          refine one_ (i := 11) (N := some 79) #[true, true, true, true, true, true, true, true, true, true, true, true, false, false] rfl rfl (by kernel_rfl) (by decide) (fun K hK => ?_)
          refine goes_ Tryd.func24 (by kernel_rfl) rfl #[.slice A x.length c] (by rfl) rfl rfl (by simp only [List.map_toArray, List.map_cons, List.map_nil]; rfl) ?_
          with_reducible refine (damperref3_Cut.calls k _ A c x X w4 (toV (Kd.C_below hCx HB4.out) hlc) HX.out.2).mono ?_
          rintro e w5 ⟨v5, rfl, hS5, hb5⟩
          refine ⟨_, rfl, ?_⟩
          obtain ⟨A5, c5, rfl⟩ := Kd.S_slice hS5
          have HS5 := Aside0.mk (Kd.S_reads' hS5).2.2
          have HB5 := Aside0.mk (below_step HB4.out hb5)
          have HS6 := Aside0.mk (Kd.C_below HS4.out hb5)
          clear hS5 hb5
          refine hK.out _ _ ((HB5.out.cell (World.block_lt_of_cell? _ _ kx)).trans kx) (fun hHeld => ?_)
          clear hK K
          refine norm_ (a' := ?_) ?_ ?_
          rotate_left
          · show Act.put _ (some 79) _ = _
            simp only [Act.put, List.setIfInBounds_toArray, List.set_cons_zero, List.set_cons_succ, i64_w, i32_w]
            rfl
          refine pure_ (i := 12) (N := some 12) (v := ?_) (a' := ?_) #[true, true, true, true, true, true, true, true, true, true, true, true, true, false] rfl rfl (by kernel_rfl) (fun _ _ _ h => h) (Or.inl ⟨by rfl, ?_⟩) ?_ ?_
          rotate_left
          · intro w'
            go_simp
            with_reducible rfl
          rotate_left
          · simp only [Act.put, List.setIfInBounds_toArray, List.set_cons_zero, List.set_cons_succ, i64_w, i32_w]
            rfl
          refine pure_ (i := 13) (N := some 13) (v := ?_) (a' := ?_) #[true, true, true, true, true, true, true, true, true, true, true, true, true, true] rfl rfl (by kernel_rfl) (fun _ _ _ h => h) (Or.inl ⟨by rfl, ?_⟩) ?_ ?_
          rotate_left
          · intro w'
            go_simp
            with_reducible rfl
          rotate_left
          · simp only [Act.put, List.setIfInBounds_toArray, List.set_cons_zero, List.set_cons_succ, i64_w, i32_w]
            rfl
          refine done_ (by kernel_rfl) ?_
          clear hHeld hCx HX kx kx2 hlc hxl HEL HS4 HO3 HB3 HB4 HBr
          go_wp2_with fail
          go_loopw [14] (fun v14 wr => ∃ j : Nat, v14 = .int .i64 (j : Int) ∧ j ≤ X.length ∧ Aside0 (Below w5.heap.size w5 wr)) (fun v14 wr => X.length - (intOf v14).toNat)
          case atStart => exact ⟨0, rfl, by omega, ⟨by first | exact Below.refl _ _ | exact below_drew1 (Below.refl _ _)⟩⟩
          case round =>
            obtain ⟨j, rfl, hj, HBj⟩ := hrel
            by_cases hjl : j < X.length
            · obtain ⟨ad4, Aa, ca, rfl, ka, hla, hCa⟩ := at_L4 (Kd.C_below HS6.out HBj.out) (j : Int) (by omega) (by omega)
              obtain ⟨ad5, Ab, cb, rfl, kb_, hlb, hCb⟩ := at_L4 (Kd.C_below HS5.out HBj.out) (j : Int) (by omega) (by omega)
              rw [show ((j : Int)).toNat = j from by omega] at ka kb_
              obtain ⟨y, hy⟩ : ∃ y, rd_L4 X (j : Int) = y := ⟨_, rfl⟩
              rw [hy] at ka kb_ hCa hCb
              have d3 : decide ((j : Int) < (X.length : Int)) = true := decide_eq_true (by omega)
              have e2 : (0 ≤ (j : Int)) = True := eq_true (by omega)
              have e3 : ((j : Int) < (X.length : Int)) = True := eq_true (by omega)
              have e4 : (j < X.length) = True := eq_true hjl
              have hca := Kd.C_string (P := Tryd.prog) (A := Aa) (c := ca) Tryd.underlying41 Tryd.underlying5 Tryd.underlying9 hCa
              have hcaq := fun n_ : Nat => Kd.C_string (P := Tryd.prog) (A := Aa) (c := ca) Tryd.underlying41 Tryd.underlying5 Tryd.underlying9 (Kd.C_drewN hCa n_)
              have hcb := Kd.C_string (P := Tryd.prog) (A := Ab) (c := cb) Tryd.underlying41 Tryd.underlying5 Tryd.underlying9 hCb
              have hcbq := fun n_ : Nat => Kd.C_string (P := Tryd.prog) (A := Ab) (c := cb) Tryd.underlying41 Tryd.underlying5 Tryd.underlying9 (Kd.C_drewN hCb n_)
              have hx2 : wrap64 ((j : Int) + 1) = ((j + 1 : Nat) : Int) := by unfold wrap64; omega
              clear hy hla hlb hCa hCb
              go_wp2_with fail
              go_quiet (fail)
              go_wp2_with fail
              go_roundw
              case rel => exact ⟨j + 1, by first | rfl | rw [hx2], by omega, ⟨by first | exact HBj.out | exact pw_below_drewN HBj.out _⟩⟩
              case measure => simp [intOf]; omega
            · obtain rfl : j = X.length := by omega
              have d3 : decide ((X.length : Int) < (X.length : Int)) = false := decide_eq_false (by omega)
              have hx2 : wrap64 ((i : Int) + 1) = ((i + 1 : Nat) : Int) := by unfold wrap64; omega
              go_wp2_with fail
              go_roundw
              case rel => exact ⟨i + 1, by first | rfl | rw [hx2], by omega, ⟨below_step HB5.out HBj.out⟩⟩
              case measure => simp [intOf]; omega
        · obtain rfl : i = 3 := by omega
          have d3 : decide ((3 : Int) < 3) = false := by decide
          go_wp2_with fail
          refine (event_Cut.calls A7 c7 b _ wr (Kd.C_below HCB.out HBr.out) hc7 HFIN.out).mono ?_
          rintro e w6 ⟨v6, rfl, hS6, hb6⟩
          obtain ⟨A6, c6, rfl⟩ := Kd.S_slice hS6
          have HS := Aside0.mk (Kd.S_reads' hS6).2.2
          have HB6 := Aside0.mk (below_step HB2.out (below_step HBr.out hb6))
          have hlm : (l1.map fun x => x.take (cutM x)).length = l1.length := List.length_map _
          obtain ⟨Z, hZ⟩ : ∃ Z, (l1.map fun x => x.take (cutM x)) = Z := ⟨_, rfl⟩
          rw [hZ] at HS hlm
          (try rw [hZ])
          clear hS6 hb6 HFIN HEL
          go_wp2_with fail
          go_loopw [16] (fun v16 wr => ∃ j : Nat, v16 = .int .i64 (j : Int) ∧ j ≤ l1.length ∧ Aside0 (Below w6.heap.size w6 wr)) (fun v16 wr => l1.length - (intOf v16).toNat)
          case atStart => exact ⟨0, rfl, by omega, ⟨by first | exact Below.refl _ _ | exact below_drew1 (Below.refl _ _)⟩⟩
          case round =>
            obtain ⟨j, rfl, hj, HBj⟩ := hrel
            by_cases hjl : j < l1.length
            · have hjz : j < Z.length := by omega
              obtain ⟨ad4, Aa, ca, rfl, ka, hla, hCa⟩ := at_L4 (Kd.C_below HS.out HBj.out) (j : Int) (by omega) (by omega)
              obtain ⟨ad5, Ab, cb, rfl, kb_, hlb, hCb⟩ := at_L4 (Kd.C_below HR1.out (below_step HB6.out HBj.out)) (j : Int) (by omega) (by omega)
              rw [show ((j : Int)).toNat = j from by omega] at ka kb_
              have hrow : rd_L4 l1 (j : Int) = l1[j] := by simp [rd_L4, List.getD_eq_getElem?_getD, List.getElem?_eq_getElem hjl]
              have hroz : rd_L4 Z (j : Int) = l1[j].take (cutM l1[j]) := by simp [rd_L4, ← hZ, List.getD_eq_getElem?_getD, List.getElem?_eq_getElem hjl]
              rw [hrow] at kb_ hCb hlb
              rw [hroz] at ka hCa
              obtain ⟨x, hx⟩ : ∃ x, l1[j] = x := ⟨_, rfl⟩
              rw [hx] at ka kb_ hCa hCb hlb
              obtain ⟨N, hN, hNl, hN3⟩ : ∃ N, cutM x = N ∧ N ≤ x.length ∧ N ≤ 300 := ⟨_, rfl, by unfold cutM; split <;> omega, by unfold cutM; split <;> omega⟩
              have hmn : (if (300 : Int) < (x.length : Int) then (300 : Int) else (x.length : Int)) = (N : Int) := by rw [← hN]; unfold cutM; split <;> split <;> omega
              rw [hN] at ka hCa
              have hCt := Kd.C_take hCb hNl
              have hlt_ : (x.take N).length = N := by rw [List.length_take]; omega
              obtain ⟨y, hy⟩ : ∃ y, x.take N = y := ⟨_, rfl⟩
              rw [hy] at ka hCa hCt hlt_
              have n1 : ((N : Int) ≤ (cb : Int)) = True := eq_true (by omega)
              have d3 : decide ((j : Int) < (l1.length : Int)) = true := decide_eq_true (by omega)
              have d4 : decide ((Z.length : Int) ≤ (j : Int)) = false := decide_eq_false (by omega)
              have e2 : (0 ≤ (j : Int)) = True := eq_true (by omega)
              have e3 : ((j : Int) < (l1.length : Int)) = True := eq_true (by omega)
              have e5 : ((j : Int) < (Z.length : Int)) = True := eq_true (by omega)
              have hca := Kd.C_string (P := Tryd.prog) (A := Aa) (c := ca) Tryd.underlying41 Tryd.underlying5 Tryd.underlying9 hCa
              have hcaq := fun n_ : Nat => Kd.C_string (P := Tryd.prog) (A := Aa) (c := ca) Tryd.underlying41 Tryd.underlying5 Tryd.underlying9 (Kd.C_drewN hCa n_)
              have hcb := Kd.C_string (P := Tryd.prog) (A := Ab) (c := cb) Tryd.underlying41 Tryd.underlying5 Tryd.underlying9 hCt
              have hcbq := fun n_ : Nat => Kd.C_string (P := Tryd.prog) (A := Ab) (c := cb) Tryd.underlying41 Tryd.underlying5 Tryd.underlying9 (Kd.C_drewN hCt n_)
              rw [hlt_] at hca hcb ka
              simp only [hlt_] at hcaq hcbq
              have hx2 : wrap64 ((j : Int) + 1) = ((j + 1 : Nat) : Int) := by unfold wrap64; omega
              clear hy hla hlb hCa hCb hCt hx hN hrow hroz hZ hlt_
              go_wp2_with fail
              go_quiet (fail)
              go_wp2_with fail
              go_roundw
              case rel => exact ⟨j + 1, by first | rfl | rw [hx2], by omega, ⟨by first | exact HBj.out | exact pw_below_drewN HBj.out _⟩⟩
              case measure => simp [intOf]; omega
            · obtain rfl : j = l1.length := by omega
              have d3 : decide ((l1.length : Int) < (l1.length : Int)) = false := decide_eq_false (by omega)
              go_wp2_with fail
              go_ret
              exact ⟨by first | rfl | (simp; done) | (simp [hlm]; done), below_step HB6.out HBj.out⟩


/-- THE ONE PURE STATEMENT of damperlaw3_EventCuts: yours. -/
def damperlaw3_EventCuts.Pure : Prop := ∀ (l0 : List Int) (l1 : List (List Int)) (a2 : Int), (l0.length ≤ maxLen ∧ ∀ y_ ∈ l0, (Lit.int .u8 y_).wf = true) → (l1.length ≤ maxLen ∧ ∀ y_ ∈ l1, y_.length ≤ maxLen ∧ ∀ z_ ∈ y_, (Lit.int .u8 z_).wf = true) → ((Lit.int .i64 a2).wf = true) → ∃ k, damperlaw3_EventCuts.f k l0 l1 a2 = some true
theorem damperlaw3_EventCuts.walk (P : damperlaw3_EventCuts.Pure) (A0 : Option Addr) (c0 : Nat) (l0 : List Int) (A1 : Option Addr) (c1 : Nat) (l1 : List (List Int)) (a2 : Int) (w : World) (hLd_ : LaidW w) (w0 : l0.length ≤ maxLen ∧ ∀ y_ ∈ l0, (Lit.int .u8 y_).wf = true) (w1 : l1.length ≤ maxLen ∧ ∀ y_ ∈ l1, y_.length ≤ maxLen ∧ ∀ z_ ∈ y_, (Lit.int .u8 z_).wf = true) (w2 : (Lit.int .i64 a2).wf = true) (hr0 : Kd.C (Kd.int .u8) w A0 l0.length l0) (hc0 : l0.length ≤ c0) (hr1 : Kd.C (Kd.slice 5 (Kd.int .u8)) w A1 l1.length l1) (hc1 : l1.length ≤ c1) :
    Calls Tryd.prog 5 #[.slice A0 l0.length c0, .slice A1 l1.length c1, .int .i64 a2] w fun e w' => e = .returned (.bool true) ∧ Below w.heap.size w w' := by
  obtain ⟨k, h⟩ := P l0 l1 a2 w0 w1 w2
  refine (damperlaw3_EventCuts.calls k A0 c0 l0 A1 c1 l1 a2 true w ⟨hLd_⟩ hr0 hc0 hr1 hc1 ⟨rfl⟩ h).mono ?_
  rintro e w' ⟨rfl, hd⟩
  exact ⟨rfl, hd⟩

end Go.Proofs.YtalpoojepffldaaDoor.Ma
