-- Written by a program of this session (wip/tools/myprint.py), in the form of the kit's print. Not trusted: Lean checks it.
import Derived.Test.YthdpnbfjpbiieaaDoorMax0
import Derived.Test.YthdpnbfjpbiieaaDoorMax11
namespace Go.Proofs.YthdpnbfjpbiieaaDoor.Ma
open Go.RowKit Go.Proofs.YthdpnbfjpbiieaaDoorW.PrintWords Go.Proofs.YthdpnbfjpbiieaaDoorW.PrintLast Go.Proofs.YthdpnbfjpbiieaaDoorW.PrintMore
attribute [local go_sem] max2_int min2_int max_two min_two max_three min_three max_four min_four   -- for this text's walks alone
set_option linter.unusedVariables false
set_option linter.unusedSimpArgs false

/-! ### spec_all: function 29 -/
/-- The first of the list from number k on whose tag is t; -1: none. -/
def idxT : List S41 → ByteArray → Int → Int
  | [], _, _ => -1
  | x :: xs, t, k => if (x.f1.toList == t.toList) = true then k else idxT xs t (k + 1)
theorem idxT_step (l : List S41) (t : ByteArray) (x : Int) (h0 : 0 ≤ x) (h1 : x < (l.length : Int)) : idxT (l.drop x.toNat) t x = if ((rd_T41 l x).f1.toList == t.toList) = true then x else idxT (l.drop (x + 1).toNat) t (x + 1) := by
  have hn : x.toNat < l.length := by omega
  rw [show (x + 1).toNat = x.toNat + 1 by omega, List.drop_eq_getElem_cons hn, idxT]
  unfold rd_T41
  rw [List.getD_eq_getElem?_getD, List.getElem?_eq_getElem hn, Option.getD_some]
theorem idxT_end (l : List S41) (t : ByteArray) (x : Int) (h1 : ¬ x < (l.length : Int)) (h0 : 0 ≤ x) : idxT (l.drop x.toNat) t x = -1 := by
  rw [List.drop_eq_nil_of_le (by omega), idxT]
theorem idxT_ge : ∀ (l : List S41) (t : ByteArray) (x : Int), 0 ≤ x → (0 ≤ idxT l t x ↔ l.any (fun y => y.f1.toList == t.toList) = true)
  | [], t, x, h => by simp [idxT]
  | y :: ys, t, x, h => by
    by_cases e : (y.f1.toList == t.toList) = true
    · rw [idxT, if_pos e, List.any_cons, e]; simp [h]
    · rw [idxT, if_neg e, List.any_cons, idxT_ge ys t (x + 1) (by omega)]
      simp only [Bool.not_eq_true] at e
      rw [e, Bool.false_or]
set_option maxHeartbeats 8000000 in
set_option maxRecDepth 100000 in
theorem tagged_walk (x0 x1 : ByteArray) (x2 : Int) (b : Nat) (t0 t1 : ByteArray) (t2 : Int) (w : World) (hK : w.heap[b]? = some (.cells #[.string t0, .string t1, .int .i64 t2] 41 (0, 0))) :
    Calls Tryd.prog 39 #[.agg #[.string x0, .string x1, .int .i64 x2], .pointer (some ⟨b, 0, none⟩)] w fun e w' => e = .returned (.bool (x1.toList == t1.toList)) ∧ Below w.heap.size w w' := by
  have c1 : (w.alloc (.cells #[.string x0, .string x1, .int .i64 x2] 41)).cell? ⟨b, 1, none⟩ = some (.string t1) := (blk_cell (blk_alloc hK _) 1).trans rfl
  clear hK
  go_enter Tryd.func39, Tryd.ntmps39
  go_wp2
  go_ret
  exact ⟨rfl, (Below.refl _ _).alloc (Nat.le_refl _) _⟩
set_option maxHeartbeats 8000000 in
set_option maxRecDepth 100000 in
theorem idx_walk (A : Option Addr) (c : Nat) (l : List S41) (b : Nat) (t0 t1 : ByteArray) (t2 : Int) (w : World) (hr : Kd.C k41 w A l.length l) (hK : w.heap[b]? = some (.cells #[.string t0, .string t1, .int .i64 t2] 41 (0, 0))) :
    Calls Tryd.prog 46 #[.slice A l.length c, .func (.func 39) #[] #[.pointer (some ⟨b, 0, none⟩)]] w fun e w' => e = .returned (.int .i64 (idxT l t1 0)) ∧ Below w.heap.size w w' := by
  have hm : (l.length : Int) ≤ 9223372036854775807 := by have := Kd.C_max hr; omega
  have HR := Aside0.mk hr
  have HK := Aside0.mk hK
  clear hr hK
  obtain ⟨res, hres⟩ : ∃ r : Int, idxT l t1 0 = r := ⟨_, rfl⟩
  have HE : Aside0 (idxT (l.drop (0 : Int).toNat) t1 0 = res) := ⟨by simpa using hres⟩
  rw [hres]
  clear hres
  go_enter Tryd.func46, Tryd.ntmps46
  go_wp2_with fail
  go_loopw [8] (fun v8 w' => ∃ x : Int, 0 ≤ x ∧ x ≤ (l.length : Int) ∧ v8 = .int .i64 x ∧ Aside0 (idxT (l.drop x.toNat) t1 x = res) ∧ Aside0 (Below w.heap.size w w')) (fun v8 w' => l.length - (intOf v8).toNat)
  case atStart => exact ⟨0, by omega, by omega, rfl, HE, ⟨Below.refl _ _⟩⟩
  case round =>
    obtain ⟨x, hx0, hx1, rfl, HI, HB⟩ := hrel
    by_cases hlt : x < (l.length : Int)
    · have hst := idxT_step l t1 x hx0 hlt
      rw [HI.out] at hst
      have hr' := Kd.C_below HR.out HB.out
      obtain ⟨ad, e, c0, c1, c2⟩ := at_T41 hr' x hx0 hlt
      subst e
      have hK' := Aside0.mk (blk_below HK.out HB.out)
      clear hr'
      have hx2 : wrap64 (x + 1) = x + 1 := by unfold wrap64; omega
      have hx3 := eq_true hx0
      have hx4 := eq_true hlt
      have hdec : decide (x < (l.length : Int)) = true := decide_eq_true hlt
      generalize hq : rd_T41 l x = y at c0 c1 c2 hst
      clear hq
      obtain ⟨y0, y1, y2⟩ := y
      obtain ⟨q, hq⟩ : ∃ q : Bool, (y1.toList == t1.toList) = q := ⟨_, rfl⟩
      have hcall := fun (W : World) hW => tagged_walk y0 y1 y2 b t0 t1 t2 W hW
      rw [hq] at hcall
      have HC := Lib.hid hcall
      simp only [hq] at hst
      clear hcall hq
      cases q with
      | true =>
        rw [if_pos rfl] at hst
        have HST := Aside0.mk hst
        clear hst
        go_wp2_with (go_at_call 39; refine (HC.out _ hK'.out).mono ?_; rintro e w2 ⟨rfl, hb2⟩; have HB2 := Aside0.mk (below_step HB.out hb2); clear hb2)
        go_ret
        exact ⟨by rw [HST.out]; rfl, HB2.out⟩
      | false =>
        rw [if_neg (by decide)] at hst
        have HST := Aside0.mk hst
        clear hst
        go_wp2_with (go_at_call 39; refine (HC.out _ hK'.out).mono ?_; rintro e w2 ⟨rfl, hb2⟩; have HB2 := Aside0.mk (below_step HB.out hb2); clear hb2)
        go_roundw
        case rel => exact ⟨x + 1, by omega, by omega, by first | rfl | rw [hx2], ⟨HST.out.symm⟩, HB2⟩
        case measure => simp [intOf]; omega
    · have hen := idxT_end l t1 x hlt hx0
      rw [HI.out] at hen
      subst hen
      have hdec : decide (x < (l.length : Int)) = false := decide_eq_false hlt
      have hdec2 := eq_false hlt
      go_wp2_with fail
      go_ret
      exact ⟨rfl, HB.out⟩
set_option maxHeartbeats 8000000 in
set_option maxRecDepth 100000 in
theorem within_walk (A : Option Addr) (c : Nat) (l : List S41) (b : Nat) (t0 t1 : ByteArray) (t2 : Int) (w : World) (hr : Kd.C k41 w A l.length l) (hK : w.heap[b]? = some (.cells #[.string t0, .string t1, .int .i64 t2] 41 (0, 0))) :
    Calls Tryd.prog 38 #[.slice A l.length c, .func (.func 39) #[] #[.pointer (some ⟨b, 0, none⟩)]] w fun e w' => e = .returned (.bool (l.any fun y => y.f1.toList == t1.toList)) ∧ Below w.heap.size w w' := by
  have hcall := idx_walk A c l b t0 t1 t2 w hr hK
  have hge := idxT_ge l t1 0 (by omega)
  clear hr hK
  generalize idxT l t1 0 = res at hcall hge
  have HC := Lib.hid hcall
  clear hcall
  have hg2 : decide (0 ≤ res) = (l.any fun y => y.f1.toList == t1.toList) := by
    rw [Bool.eq_iff_iff, decide_eq_true_iff]; exact hge
  rw [← hg2]
  clear hg2 hge
  go_enter Tryd.func38, Tryd.ntmps38
  go_wp2_with (go_at_call 46; refine HC.out.mono ?_; rintro e w2 ⟨rfl, hb2⟩)
  go_ret
  exact ⟨rfl, hb2⟩
/-- The sum so far, and the targets that are left: what is wrong with them together. -/
def all_go : List S41 → List S41 → Int → Int
  | _, [], sum => if sum = 100 then 0 else 4
  | pre, t :: ts, sum => if t.f1.toList ≠ [] ∧ pre.any (fun y => y.f1.toList == t.f1.toList) = true then 5 else all_go (pre ++ [t]) ts (wrap64 (sum + t.f2))
def spec_all.f (l : List S41) : Option Int := some (all_go [] l 0)
theorem all_step (l : List S41) (s x : Int) (h0 : 0 ≤ x) (h1 : x < (l.length : Int)) : all_go (l.take x.toNat) (l.drop x.toNat) s = if (rd_T41 l x).f1.toList ≠ [] ∧ (l.take x.toNat).any (fun y => y.f1.toList == (rd_T41 l x).f1.toList) = true then 5 else all_go (l.take (x + 1).toNat) (l.drop (x + 1).toNat) (wrap64 (s + (rd_T41 l x).f2)) := by
  have hn : x.toNat < l.length := by omega
  have e : rd_T41 l x = l[x.toNat] := by
    unfold rd_T41
    rw [List.getD_eq_getElem?_getD, List.getElem?_eq_getElem hn, Option.getD_some]
  rw [e, show (x + 1).toNat = x.toNat + 1 by omega, List.drop_eq_getElem_cons hn, List.take_succ_eq_append_getElem hn]
  conv => lhs; unfold all_go
theorem all_end (l : List S41) (s x : Int) (h1 : ¬ x < (l.length : Int)) (h0 : 0 ≤ x) : all_go (l.take x.toNat) (l.drop x.toNat) s = if s = 100 then 0 else 4 := by
  rw [List.drop_eq_nil_of_le (by omega), all_go]
theorem within_walk' (A : Option Addr) (c n : Nat) (l : List S41) (b : Nat) (t0 t1 : ByteArray) (t2 : Int) (w : World) (hn : l.length = n) (hr : Kd.C k41 w A l.length l) (hK : w.heap[b]? = some (.cells #[.string t0, .string t1, .int .i64 t2] 41 (0, 0))) :
    Calls Tryd.prog 38 #[.slice A n c, .func (.func 39) #[] #[.pointer (some ⟨b, 0, none⟩)]] w fun e w' => e = .returned (.bool (l.any fun y => y.f1.toList == t1.toList)) ∧ Below w.heap.size w w' := by
  subst hn; exact within_walk A c l b t0 t1 t2 w hr hK
set_option maxHeartbeats 8000000 in
set_option maxRecDepth 100000 in
theorem spec_all.calls (A0 : Option Addr) (c0 : Nat) (l0 : List (S41)) (r : Int) (w : World) (hr0 : Kd.C k41 w A0 l0.length l0) (hc0 : l0.length ≤ c0) (h : spec_all.f l0 = some r) :
    Calls Tryd.prog 29 #[.slice A0 l0.length c0] w fun e w' => e = .returned (.int .i64 r) ∧ Below w.heap.size w w' := by
  have hm : (l0.length : Int) ≤ 9223372036854775807 := by have := Kd.C_max hr0; omega
  have HR := Aside0.mk hr0
  clear hr0
  have hr := Option.some.inj h
  clear h
  have HE : Aside0 (all_go (l0.take (0 : Int).toNat) (l0.drop (0 : Int).toNat) 0 = r) := ⟨by simpa using hr⟩
  clear hr
  go_enter Tryd.func29, Tryd.ntmps29
  go_wp2_with fail
  go_loopw [3, 8] (fun v3 v8 w' => ∃ s x : Int, 0 ≤ x ∧ x ≤ (l0.length : Int) ∧ v3 = .int .i64 s ∧ v8 = .int .i64 x ∧ Aside0 (all_go (l0.take x.toNat) (l0.drop x.toNat) s = r) ∧ Aside0 (Below w.heap.size w w')) (fun v3 v8 w' => l0.length - (intOf v8).toNat)
  case atStart => exact ⟨0, 0, by omega, by omega, rfl, rfl, HE, ⟨Below.refl _ _⟩⟩
  case round =>
    obtain ⟨s, x, hx0, hx1, rfl, rfl, HI, HB⟩ := hrel
    by_cases hlt : x < (l0.length : Int)
    · have hst := all_step l0 s x hx0 hlt
      rw [HI.out] at hst
      have hr' := Kd.C_below HR.out HB.out
      obtain ⟨ad, e, q0, q1, q2⟩ := at_T41 hr' x hx0 hlt
      subst e
      clear hr'
      have hx2 : wrap64 (x + 1) = x + 1 := by unfold wrap64; omega
      have hx3 := eq_true hx0
      have hx4 := eq_true hlt
      have hx5 : (x ≤ (c0 : Int)) = True := eq_true (by omega)
      have hdec : decide (x < (l0.length : Int)) = true := decide_eq_true hlt
      generalize hq : rd_T41 l0 x = y at q0 q1 q2 hst
      clear hq
      obtain ⟨y0, y1, y2⟩ := y
      simp only at q0 q1 q2 hst
      obtain ⟨q, hq⟩ : ∃ q : Bool, (l0.take x.toNat).any (fun y => y.f1.toList == y1.toList) = q := ⟨_, rfl⟩
      have hcall := fun (W : World) (n b : Nat) hn hW hK => within_walk' (some ad) c0 n (l0.take x.toNat) b y0 y1 y2 W hn hW hK
      rw [hq] at hcall hst
      have HC := Lib.hid hcall
      clear hcall hq
      rcases str_em y1 with ⟨t1, t2, t3, HT⟩ | ⟨t1, t2, t3, HT⟩
      · rw [if_neg (fun hh => hh.1 HT.out)] at hst
        have HST := Aside0.mk hst
        clear hst
        go_wp2_with fail
        go_roundw
        case rel => exact ⟨_, x + 1, by omega, by omega, rfl, by first | rfl | rw [hx2], ⟨HST.out.symm⟩, ⟨below_alloc HB.out _⟩⟩
        case measure => simp [intOf]; omega
      · cases q with
        | true =>
          rw [if_pos ⟨HT.out, rfl⟩] at hst
          have HST := Aside0.mk hst
          clear hst
          go_wp2_with fail
          refine (HC.out _ x.toNat _ (by rw [List.length_take]; omega) (Kd.C_alloc (Kd.C_take (Kd.C_below HR.out HB.out) (by omega)) _) (blk_new _ _)).mono ?_
          rintro e w2 ⟨rfl, hb2⟩
          have HB2 := Aside0.mk (below_step (below_alloc HB.out _) hb2)
          clear hb2
          go_wp2_with fail
          go_ret
          exact ⟨by rw [HST.out]; rfl, HB2.out⟩
        | false =>
          rw [if_neg (by simp)] at hst
          have HST := Aside0.mk hst
          clear hst
          go_wp2_with fail
          refine (HC.out _ x.toNat _ (by rw [List.length_take]; omega) (Kd.C_alloc (Kd.C_take (Kd.C_below HR.out HB.out) (by omega)) _) (blk_new _ _)).mono ?_
          rintro e w2 ⟨rfl, hb2⟩
          have HB2 := Aside0.mk (below_step (below_alloc HB.out _) hb2)
          clear hb2
          go_wp2_with fail
          go_roundw
          case rel => exact ⟨_, x + 1, by omega, by omega, rfl, by first | rfl | rw [hx2], ⟨HST.out.symm⟩, HB2⟩
          case measure => simp [intOf]; omega
    · have hen := all_end l0 s x hlt hx0
      rw [HI.out] at hen
      have hdec : decide (x < (l0.length : Int)) = false := decide_eq_false hlt
      have hdec2 := eq_false hlt
      by_cases h100 : s = 100
      · subst h100
        rw [if_pos rfl] at hen
        have HST := Aside0.mk hen
        clear hen
        go_wp2_with fail
        go_ret
        exact ⟨by rw [HST.out]; rfl, HB.out⟩
      · rw [if_neg h100] at hen
        have HST := Aside0.mk hen
        clear hen
        have h1 : (s == 100) = false := beq_eq_false_iff_ne.mpr h100
        have h2 : (s != 100) = true := bne_iff_ne.mpr h100
        clear h100
        go_wp2_with fail
        go_ret
        exact ⟨by rw [HST.out]; rfl, HB.out⟩

end Go.Proofs.YthdpnbfjpbiieaaDoor.Ma
