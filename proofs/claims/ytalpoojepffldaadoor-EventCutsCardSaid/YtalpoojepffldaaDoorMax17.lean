-- Written by a program of this session (wip/tools/myprint.py), in the form of the kit's print. Not trusted: Lean checks it.
import Derived.Test.YtalpoojepffldaaDoorMax0
import Derived.Test.YtalpoojepffldaaDoorMax13
import Derived.Test.YtalpoojepffldaaDoorMax15
namespace Go.Proofs.YtalpoojepffldaaDoor.Ma
open Go.RowKit Go.Proofs.YtalpoojepffldaaDoorW.PrintWords Go.Proofs.YtalpoojepffldaaDoorW.PrintLast Go.Proofs.YtalpoojepffldaaDoorW.PrintMore
attribute [local go_sem] max2_int min2_int max_two min_two max_three min_three max_four min_four   -- for this text's walks alone
set_option linter.unusedVariables false
set_option linter.unusedSimpArgs false

/-! ### spec_target: function 73 -/
/-- What is wrong with a target, where it is known whether its name parts and its tag is one. -/
def tgt (s t : ByteArray) (p : Int) (is g : Bool) : Int := if s.toList ≠ [] ∧ is = false then 1 else if t.toList ≠ [] ∧ g = false then 1 else if 0 ≤ p ∧ p ≤ 100 then 0 else 2
def spec_target.f (a0_0 : ByteArray) (a0_1 : ByteArray) (a0_2 : Int) : Option Int :=
  (label_Split.f a0_0).bind fun t => (label_Tag.f a0_1).bind fun g => some (tgt a0_0 a0_1 a0_2 t.2.2 g)
theorem str_em (s : ByteArray) : ((s.toList != ([] : List UInt8)) = false ∧ s.toList.isEmpty = true ∧ (s.toList == ([] : List UInt8)) = true ∧ Aside0 (s.toList = [])) ∨ ((s.toList != ([] : List UInt8)) = true ∧ s.toList.isEmpty = false ∧ (s.toList == ([] : List UInt8)) = false ∧ Aside0 (¬ s.toList = [])) := by
  cases hs : s.toList with
  | nil => exact .inl ⟨rfl, rfl, rfl, ⟨rfl⟩⟩
  | cons a l => exact .inr ⟨rfl, rfl, rfl, ⟨by simp⟩⟩
theorem blk_keep {W w1 : World} (hb : Below W.heap.size W w1) {g : Nat} {t : TypeId} {cs : Array Value} (h : W.heap[g]? = some (.cells cs t (0, 0))) : w1.heap[g]? = some (.cells cs t (0, 0)) := blk_below h hb
set_option maxHeartbeats 8000000 in
set_option maxRecDepth 100000 in
theorem spec_target.calls (a0_0 : ByteArray) (a0_1 : ByteArray) (a0_2 : Int) (r : Int) (w : World) (hLd_ : Aside0 (LaidW w)) (h : spec_target.f a0_0 a0_1 a0_2 = some r) :
    Calls Tryd.prog 73 #[.agg #[.string a0_0, .string a0_1, .int .i64 a0_2]] w fun e w' => e = .returned (.int .i64 r) ∧ Below w.heap.size w w' := by
  unfold spec_target.f at h
  obtain ⟨⟨r1, r2, is⟩, hS, h⟩ := Option.bind_eq_some_iff.mp h
  obtain ⟨g, hG, h⟩ := Option.bind_eq_some_iff.mp h
  have hr := Option.some.inj h; clear h
  have hsp := fun (W : World) (hl : Aside0 (LaidW W)) => label_Split.calls a0_0 r1 r2 is W hl hS
  have htg := fun (W : World) => label_Tag.calls a0_1 g W hG
  have HSp := Lib.hid hsp; clear hsp
  have HTg := Lib.hid htg; clear htg
  clear hS hG
  have HR := Lib.hid hr; clear hr
  have HL0 : Aside0 (LaidW (w.alloc (.cells #[.string a0_0, .string a0_1, .int .i64 a0_2] 39))) := ⟨hLd_.out.below ((Below.refl _ _).alloc (Nat.le_refl _) _)⟩
  have hK0 : (w.alloc (.cells #[.string a0_0, .string a0_1, .int .i64 a0_2] 39)).heap[w.heap.size]? = some (.cells #[.string a0_0, .string a0_1, .int .i64 a0_2] 39 (0, 0)) := blk_new _ _
  have HK0 := Lib.hid hK0; clear hK0
  have hB0 : Below w.heap.size w (w.alloc (.cells #[.string a0_0, .string a0_1, .int .i64 a0_2] 39)) := (Below.refl _ _).alloc (Nat.le_refl _) _
  go_enter Tryd.func73, Tryd.ntmps73
  go_wp2_with fail
  refine (HSp.out _ HL0).mono ?_
  rintro e w1 ⟨rfl, hb1⟩
  have hK1 := blk_keep hb1 HK0.out
  have hB1 := below_step hB0 hb1
  clear hb1 HK0 hB0 HL0
  have c0 : w1.cell? ⟨w.heap.size, 0, none⟩ = some (.string a0_0) := (blk_cell hK1 0).trans rfl
  have c1 : w1.cell? ⟨w.heap.size, 1, none⟩ = some (.string a0_1) := (blk_cell hK1 1).trans rfl
  have c2 : w1.cell? ⟨w.heap.size, 2, none⟩ = some (.int .i64 a0_2) := (blk_cell hK1 2).trans rfl
  have HK1 := Lib.hid hK1; clear hK1
  have HB1 := Aside0.mk hB1; clear hB1
  obtain ⟨pb, hpb, hpb2⟩ : ∃ pb : Bool, spec_span_has.f 0 100 a0_2 = some pb ∧ (pb = true ↔ 0 ≤ a0_2 ∧ a0_2 ≤ 100) := by
    unfold spec_span_has.f
    by_cases h0 : a0_2 ≥ 0
    · rw [if_pos h0]; exact ⟨_, rfl, by simp; omega⟩
    · rw [if_neg h0]; exact ⟨_, rfl, by simp; omega⟩
  have hhas := fun (W : World) => spec_span_has.calls 0 100 a0_2 pb W hpb
  have HHas := Lib.hid hhas; clear hhas hpb
  have HPb := Lib.hid hpb2; clear hpb2
  rcases str_em a0_0 with ⟨s1, s2, s3, HS⟩ | ⟨s1, s2, s3, HS⟩
  all_goals cases is
  all_goals rcases str_em a0_1 with ⟨t1, t2, t3, HT⟩ | ⟨t1, t2, t3, HT⟩
  all_goals cases g
  all_goals cases pb
  all_goals
    go_wp2_with (first | (go_at_call 37; refine (HTg.out _).mono ?_; rintro e w2 ⟨rfl, hb2⟩; have hB2 := Aside0.mk (below_step HB1.out hb2); have d2 : w2.cell? ⟨w.heap.size, 2, none⟩ = some (.int .i64 a0_2) := (blk_cell (blk_keep hb2 HK1.out) 2).trans rfl; clear hb2) | (go_at_call 72; refine (HHas.out _).mono ?_; rintro e w3 ⟨rfl, hb3⟩))
    (first | go_ret | (go_outline; go_ways; fail))
    have h1 := HR.out
    have h2 := HPb.out
    have h3 := HS.out
    have h4 := HT.out
    refine ⟨?_, ?_⟩
    · rw [← h1]; unfold tgt; simp [h3, h4] at h2 ⊢ <;> omega
    · first | exact below_step hB2.out hb3 | exact hB2.out | exact below_step HB1.out hb3 | exact HB1.out

-- NOT PRINTED: function 92 (api_Target_92)

-- NOT PRINTED: function 85 (api_Target_85)

/-! ### spec_all: function 74 -/
/-- The first of the list from number k on whose tag is t; -1: none. -/
def idxT : List S39 → ByteArray → Int → Int
  | [], _, _ => -1
  | x :: xs, t, k => if (x.f1.toList == t.toList) = true then k else idxT xs t (k + 1)
theorem idxT_step (l : List S39) (t : ByteArray) (x : Int) (h0 : 0 ≤ x) (h1 : x < (l.length : Int)) : idxT (l.drop x.toNat) t x = if ((rd_T39 l x).f1.toList == t.toList) = true then x else idxT (l.drop (x + 1).toNat) t (x + 1) := by
  have hn : x.toNat < l.length := by omega
  rw [show (x + 1).toNat = x.toNat + 1 by omega, List.drop_eq_getElem_cons hn, idxT]
  unfold rd_T39
  rw [List.getD_eq_getElem?_getD, List.getElem?_eq_getElem hn, Option.getD_some]
theorem idxT_end (l : List S39) (t : ByteArray) (x : Int) (h1 : ¬ x < (l.length : Int)) (h0 : 0 ≤ x) : idxT (l.drop x.toNat) t x = -1 := by
  rw [List.drop_eq_nil_of_le (by omega), idxT]
theorem idxT_ge : ∀ (l : List S39) (t : ByteArray) (x : Int), 0 ≤ x → (0 ≤ idxT l t x ↔ l.any (fun y => y.f1.toList == t.toList) = true)
  | [], t, x, h => by simp [idxT]
  | y :: ys, t, x, h => by
    by_cases e : (y.f1.toList == t.toList) = true
    · rw [idxT, if_pos e, List.any_cons, e]; simp [h]
    · rw [idxT, if_neg e, List.any_cons, idxT_ge ys t (x + 1) (by omega)]
      simp only [Bool.not_eq_true] at e
      rw [e, Bool.false_or]
set_option maxHeartbeats 8000000 in
set_option maxRecDepth 100000 in
theorem tagged_walk (x0 x1 : ByteArray) (x2 : Int) (b : Nat) (t0 t1 : ByteArray) (t2 : Int) (w : World) (hK : w.heap[b]? = some (.cells #[.string t0, .string t1, .int .i64 t2] 39 (0, 0))) :
    Calls Tryd.prog 86 #[.agg #[.string x0, .string x1, .int .i64 x2], .pointer (some ⟨b, 0, none⟩)] w fun e w' => e = .returned (.bool (x1.toList == t1.toList)) ∧ Below w.heap.size w w' := by
  have c1 : (w.alloc (.cells #[.string x0, .string x1, .int .i64 x2] 39)).cell? ⟨b, 1, none⟩ = some (.string t1) := (blk_cell (blk_alloc hK _) 1).trans rfl
  clear hK
  go_enter Tryd.func86, Tryd.ntmps86
  go_wp2
  go_ret
  exact ⟨rfl, (Below.refl _ _).alloc (Nat.le_refl _) _⟩
set_option maxHeartbeats 8000000 in
set_option maxRecDepth 100000 in
theorem idx_walk (A : Option Addr) (c : Nat) (l : List S39) (b : Nat) (t0 t1 : ByteArray) (t2 : Int) (w : World) (hr : Kd.C k39 w A l.length l) (hK : w.heap[b]? = some (.cells #[.string t0, .string t1, .int .i64 t2] 39 (0, 0))) :
    Calls Tryd.prog 92 #[.slice A l.length c, .func (.func 86) #[] #[.pointer (some ⟨b, 0, none⟩)]] w fun e w' => e = .returned (.int .i64 (idxT l t1 0)) ∧ Below w.heap.size w w' := by
  have hm : (l.length : Int) ≤ 9223372036854775807 := by have := Kd.C_max hr; omega
  have HR := Aside0.mk hr
  have HK := Aside0.mk hK
  clear hr hK
  obtain ⟨res, hres⟩ : ∃ r : Int, idxT l t1 0 = r := ⟨_, rfl⟩
  have HE : Aside0 (idxT (l.drop (0 : Int).toNat) t1 0 = res) := ⟨by simpa using hres⟩
  rw [hres]
  clear hres
  go_enter Tryd.func92, Tryd.ntmps92
  go_wp2_with fail
  go_loopw [8] (fun v8 w' => ∃ x : Int, 0 ≤ x ∧ x ≤ (l.length : Int) ∧ v8 = .int .i64 x ∧ Aside0 (idxT (l.drop x.toNat) t1 x = res) ∧ Aside0 (Below w.heap.size w w')) (fun v8 w' => l.length - (intOf v8).toNat)
  case atStart => exact ⟨0, by omega, by omega, rfl, HE, ⟨Below.refl _ _⟩⟩
  case round =>
    obtain ⟨x, hx0, hx1, rfl, HI, HB⟩ := hrel
    by_cases hlt : x < (l.length : Int)
    · have hst := idxT_step l t1 x hx0 hlt
      rw [HI.out] at hst
      have hr' := Kd.C_below HR.out HB.out
      obtain ⟨ad, e, c0, c1, c2⟩ := at_T39 hr' x hx0 hlt
      subst e
      have hK' := Aside0.mk (blk_below HK.out HB.out)
      clear hr'
      have hx2 : wrap64 (x + 1) = x + 1 := by unfold wrap64; omega
      have hx3 := eq_true hx0
      have hx4 := eq_true hlt
      have hdec : decide (x < (l.length : Int)) = true := decide_eq_true hlt
      generalize hq : rd_T39 l x = y at c0 c1 c2 hst
      clear hq
      obtain ⟨y0, y1, y2⟩ := y
      obtain ⟨q, hq⟩ : ∃ q : Bool, (y1.toList == t1.toList) = q := ⟨_, rfl⟩
      have hcall := fun (W : World) hW => tagged_walk y0 y1 y2 b t0 t1 t2 W hW
      rw [hq] at hcall
      have HC := Lib.hid hcall
      simp only [hq] at hst
      clear hcall hq
      cases q with
      | true =>
        rw [if_pos rfl] at hst
        have HST := Aside0.mk hst
        clear hst
        go_wp2_with (go_at_call 86; refine (HC.out _ hK'.out).mono ?_; rintro e w2 ⟨rfl, hb2⟩; have HB2 := Aside0.mk (below_step HB.out hb2); clear hb2)
        go_ret
        exact ⟨by rw [HST.out]; rfl, HB2.out⟩
      | false =>
        rw [if_neg (by decide)] at hst
        have HST := Aside0.mk hst
        clear hst
        go_wp2_with (go_at_call 86; refine (HC.out _ hK'.out).mono ?_; rintro e w2 ⟨rfl, hb2⟩; have HB2 := Aside0.mk (below_step HB.out hb2); clear hb2)
        go_roundw
        case rel => exact ⟨x + 1, by omega, by omega, by first | rfl | rw [hx2], ⟨HST.out.symm⟩, HB2⟩
        case measure => simp [intOf]; omega
    · have hen := idxT_end l t1 x hlt hx0
      rw [HI.out] at hen
      subst hen
      have hdec : decide (x < (l.length : Int)) = false := decide_eq_false hlt
      have hdec2 := eq_false hlt
      go_wp2_with fail
      go_ret
      exact ⟨rfl, HB.out⟩
set_option maxHeartbeats 8000000 in
set_option maxRecDepth 100000 in
theorem within_walk (A : Option Addr) (c : Nat) (l : List S39) (b : Nat) (t0 t1 : ByteArray) (t2 : Int) (w : World) (hr : Kd.C k39 w A l.length l) (hK : w.heap[b]? = some (.cells #[.string t0, .string t1, .int .i64 t2] 39 (0, 0))) :
    Calls Tryd.prog 85 #[.slice A l.length c, .func (.func 86) #[] #[.pointer (some ⟨b, 0, none⟩)]] w fun e w' => e = .returned (.bool (l.any fun y => y.f1.toList == t1.toList)) ∧ Below w.heap.size w w' := by
  have hcall := idx_walk A c l b t0 t1 t2 w hr hK
  have hge := idxT_ge l t1 0 (by omega)
  clear hr hK
  generalize idxT l t1 0 = res at hcall hge
  have HC := Lib.hid hcall
  clear hcall
  have hg2 : decide (0 ≤ res) = (l.any fun y => y.f1.toList == t1.toList) := by
    rw [Bool.eq_iff_iff, decide_eq_true_iff]; exact hge
  rw [← hg2]
  clear hg2 hge
  go_enter Tryd.func85, Tryd.ntmps85
  go_wp2_with (go_at_call 92; refine HC.out.mono ?_; rintro e w2 ⟨rfl, hb2⟩)
  go_ret
  exact ⟨rfl, hb2⟩
/-- The sum so far, and the targets that are left: what is wrong with them together. -/
def all_go : List S39 → List S39 → Int → Int
  | _, [], sum => if sum = 100 then 0 else 4
  | pre, t :: ts, sum => if t.f1.toList ≠ [] ∧ pre.any (fun y => y.f1.toList == t.f1.toList) = true then 5 else all_go (pre ++ [t]) ts (wrap64 (sum + t.f2))
def spec_all.f (l : List S39) : Option Int := some (all_go [] l 0)
theorem all_step (l : List S39) (s x : Int) (h0 : 0 ≤ x) (h1 : x < (l.length : Int)) : all_go (l.take x.toNat) (l.drop x.toNat) s = if (rd_T39 l x).f1.toList ≠ [] ∧ (l.take x.toNat).any (fun y => y.f1.toList == (rd_T39 l x).f1.toList) = true then 5 else all_go (l.take (x + 1).toNat) (l.drop (x + 1).toNat) (wrap64 (s + (rd_T39 l x).f2)) := by
  have hn : x.toNat < l.length := by omega
  have e : rd_T39 l x = l[x.toNat] := by
    unfold rd_T39
    rw [List.getD_eq_getElem?_getD, List.getElem?_eq_getElem hn, Option.getD_some]
  rw [e, show (x + 1).toNat = x.toNat + 1 by omega, List.drop_eq_getElem_cons hn, List.take_succ_eq_append_getElem hn]
  conv => lhs; unfold all_go
theorem all_end (l : List S39) (s x : Int) (h1 : ¬ x < (l.length : Int)) (h0 : 0 ≤ x) : all_go (l.take x.toNat) (l.drop x.toNat) s = if s = 100 then 0 else 4 := by
  rw [List.drop_eq_nil_of_le (by omega), all_go]
theorem within_walk' (A : Option Addr) (c n : Nat) (l : List S39) (b : Nat) (t0 t1 : ByteArray) (t2 : Int) (w : World) (hn : l.length = n) (hr : Kd.C k39 w A l.length l) (hK : w.heap[b]? = some (.cells #[.string t0, .string t1, .int .i64 t2] 39 (0, 0))) :
    Calls Tryd.prog 85 #[.slice A n c, .func (.func 86) #[] #[.pointer (some ⟨b, 0, none⟩)]] w fun e w' => e = .returned (.bool (l.any fun y => y.f1.toList == t1.toList)) ∧ Below w.heap.size w w' := by
  subst hn; exact within_walk A c l b t0 t1 t2 w hr hK
set_option maxHeartbeats 8000000 in
set_option maxRecDepth 100000 in
theorem spec_all.calls (A0 : Option Addr) (c0 : Nat) (l0 : List (S39)) (r : Int) (w : World) (hr0 : Kd.C k39 w A0 l0.length l0) (hc0 : l0.length ≤ c0) (h : spec_all.f l0 = some r) :
    Calls Tryd.prog 74 #[.slice A0 l0.length c0] w fun e w' => e = .returned (.int .i64 r) ∧ Below w.heap.size w w' := by
  have hm : (l0.length : Int) ≤ 9223372036854775807 := by have := Kd.C_max hr0; omega
  have HR := Aside0.mk hr0
  clear hr0
  have hr := Option.some.inj h
  clear h
  have HE : Aside0 (all_go (l0.take (0 : Int).toNat) (l0.drop (0 : Int).toNat) 0 = r) := ⟨by simpa using hr⟩
  clear hr
  go_enter Tryd.func74, Tryd.ntmps74
  go_wp2_with fail
  go_loopw [3, 8] (fun v3 v8 w' => ∃ s x : Int, 0 ≤ x ∧ x ≤ (l0.length : Int) ∧ v3 = .int .i64 s ∧ v8 = .int .i64 x ∧ Aside0 (all_go (l0.take x.toNat) (l0.drop x.toNat) s = r) ∧ Aside0 (Below w.heap.size w w')) (fun v3 v8 w' => l0.length - (intOf v8).toNat)
  case atStart => exact ⟨0, 0, by omega, by omega, rfl, rfl, HE, ⟨Below.refl _ _⟩⟩
  case round =>
    obtain ⟨s, x, hx0, hx1, rfl, rfl, HI, HB⟩ := hrel
    by_cases hlt : x < (l0.length : Int)
    · have hst := all_step l0 s x hx0 hlt
      rw [HI.out] at hst
      have hr' := Kd.C_below HR.out HB.out
      obtain ⟨ad, e, q0, q1, q2⟩ := at_T39 hr' x hx0 hlt
      subst e
      clear hr'
      have hx2 : wrap64 (x + 1) = x + 1 := by unfold wrap64; omega
      have hx3 := eq_true hx0
      have hx4 := eq_true hlt
      have hx5 : (x ≤ (c0 : Int)) = True := eq_true (by omega)
      have hdec : decide (x < (l0.length : Int)) = true := decide_eq_true hlt
      generalize hq : rd_T39 l0 x = y at q0 q1 q2 hst
      clear hq
      obtain ⟨y0, y1, y2⟩ := y
      simp only at q0 q1 q2 hst
      obtain ⟨q, hq⟩ : ∃ q : Bool, (l0.take x.toNat).any (fun y => y.f1.toList == y1.toList) = q := ⟨_, rfl⟩
      have hcall := fun (W : World) (n b : Nat) hn hW hK => within_walk' (some ad) c0 n (l0.take x.toNat) b y0 y1 y2 W hn hW hK
      rw [hq] at hcall hst
      have HC := Lib.hid hcall
      clear hcall hq
      rcases str_em y1 with ⟨t1, t2, t3, HT⟩ | ⟨t1, t2, t3, HT⟩
      · rw [if_neg (fun hh => hh.1 HT.out)] at hst
        have HST := Aside0.mk hst
        clear hst
        go_wp2_with fail
        go_roundw
        case rel => exact ⟨_, x + 1, by omega, by omega, rfl, by first | rfl | rw [hx2], ⟨HST.out.symm⟩, ⟨below_alloc HB.out _⟩⟩
        case measure => simp [intOf]; omega
      · cases q with
        | true =>
          rw [if_pos ⟨HT.out, rfl⟩] at hst
          have HST := Aside0.mk hst
          clear hst
          go_wp2_with fail
          refine (HC.out _ x.toNat _ (by rw [List.length_take]; omega) (Kd.C_alloc (Kd.C_take (Kd.C_below HR.out HB.out) (by omega)) _) (blk_new _ _)).mono ?_
          rintro e w2 ⟨rfl, hb2⟩
          have HB2 := Aside0.mk (below_step (below_alloc HB.out _) hb2)
          clear hb2
          go_wp2_with fail
          go_ret
          exact ⟨by rw [HST.out]; rfl, HB2.out⟩
        | false =>
          rw [if_neg (by simp)] at hst
          have HST := Aside0.mk hst
          clear hst
          go_wp2_with fail
          refine (HC.out _ x.toNat _ (by rw [List.length_take]; omega) (Kd.C_alloc (Kd.C_take (Kd.C_below HR.out HB.out) (by omega)) _) (blk_new _ _)).mono ?_
          rintro e w2 ⟨rfl, hb2⟩
          have HB2 := Aside0.mk (below_step (below_alloc HB.out _) hb2)
          clear hb2
          go_wp2_with fail
          go_roundw
          case rel => exact ⟨_, x + 1, by omega, by omega, rfl, by first | rfl | rw [hx2], ⟨HST.out.symm⟩, HB2⟩
          case measure => simp [intOf]; omega
    · have hen := all_end l0 s x hlt hx0
      rw [HI.out] at hen
      have hdec : decide (x < (l0.length : Int)) = false := decide_eq_false hlt
      have hdec2 := eq_false hlt
      by_cases h100 : s = 100
      · subst h100
        rw [if_pos rfl] at hen
        have HST := Aside0.mk hen
        clear hen
        go_wp2_with fail
        go_ret
        exact ⟨by rw [HST.out]; rfl, HB.out⟩
      · rw [if_neg h100] at hen
        have HST := Aside0.mk hen
        clear hen
        have h1 : (s == 100) = false := beq_eq_false_iff_ne.mpr h100
        have h2 : (s != 100) = true := bne_iff_ne.mpr h100
        clear h100
        go_wp2_with fail
        go_ret
        exact ⟨by rw [HST.out]; rfl, HB.out⟩

end Go.Proofs.YtalpoojepffldaaDoor.Ma
