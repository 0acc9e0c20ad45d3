-- Written by a program of this session (wip/tools/myprint.py), in the form of the kit's print. Not trusted: Lean checks it.
import Derived.Test.YthdpnbfjpbiieaaDoorMax0
import Derived.Test.YthdpnbfjpbiieaaDoorMax1
namespace Go.Proofs.YthdpnbfjpbiieaaDoor.Ma
open Go.RowKit Go.Proofs.YthdpnbfjpbiieaaDoorW.PrintWords Go.Proofs.YthdpnbfjpbiieaaDoorW.PrintLast Go.Proofs.YthdpnbfjpbiieaaDoorW.PrintMore
attribute [local go_sem] max2_int min2_int max_two min_two max_three min_three max_four min_four   -- for this text's walks alone
set_option linter.unusedVariables false
set_option linter.unusedSimpArgs false

attribute [local go_sem high] eqA41
-- NOT PRINTED: function 32 (api_Target_32)

/-! ### spec_same: function 33 -/
def spec_same.f (a0_0 : ByteArray) (a0_1 : ByteArray) (a0_2 : Int) (a1_0 : ByteArray) (a1_1 : ByteArray) (a1_2 : Int) : Option (Bool) := some (a0_0.toList == a1_0.toList && (a0_1.toList == a1_1.toList && (a0_2 == a1_2)))
set_option maxHeartbeats 8000000 in
set_option maxRecDepth 100000 in
theorem spec_same.calls (a0_0 : ByteArray) (a0_1 : ByteArray) (a0_2 : Int) (a1_0 : ByteArray) (a1_1 : ByteArray) (a1_2 : Int) (r : Bool) (w : World) (h : spec_same.f a0_0 a0_1 a0_2 a1_0 a1_1 a1_2 = some r) :
    Calls Tryd.prog 33 #[.agg #[.string a0_0, .string a0_1, .int .i64 a0_2], .agg #[.string a1_0, .string a1_1, .int .i64 a1_2]] w fun e w' => e = .returned (.bool r) ∧ Below w.heap.size w w' := by
  have hu41 := Tryd.underlying41
  have HB := Aside0.mk (Below.refl w.heap.size w)
  have H : (some (a0_0.toList == a1_0.toList && (a0_1.toList == a1_1.toList && (a0_2 == a1_2)))) = some r := h
  clear h
  obtain rfl := Option.some.inj H
  go_enter Tryd.func33, Tryd.ntmps33
  go_wp2_with (first | ((with_reducible refine gate_dst (N := 2) rfl ?_); refine box_event ?hg (N := 2) ?hd (cs := #[.string a0_0, .string a0_1, .int .i64 a0_2]) (t := 41) ?hr ?_; (case hd => rfl); (case hg => rfl); (case hr => first | (go_simp; done) | (go_simp; rfl)); intro gb398 hg w3 hbox hb; have n0_ := Aside0.mk (below_step (by repeat (first | (with_reducible first | exact HB.out | apply below_alloc | apply pw_below_drewN | apply below_drew1) | exact HB.out)) hb); have n1_ := Aside0.mk (hbox); have n2_ := Aside0.mk ((by rw [hg]; exact (below_size (by repeat (first | (with_reducible first | exact HB.out | apply below_alloc | apply pw_below_drewN | apply below_drew1) | exact HB.out))) : w.heap.size ≤ gb398)); have n3_ := Aside0.mk ((by rw [hg]; exact (below_size (by repeat (first | (with_reducible first | exact HB.out | apply below_alloc | apply pw_below_drewN | apply below_drew1) | exact HB.out))) : w.heap.size ≤ gb398)); clear HB; have HB := n0_; have BK398 := n1_; have GW398 := n2_; have GE398 := n3_; clear n0_ n1_ n2_ n3_; clear hb hbox hg) | ((with_reducible refine gate_dst (N := 3) rfl ?_); refine box_event ?hg (N := 3) ?hd (cs := #[.string a1_0, .string a1_1, .int .i64 a1_2]) (t := 41) ?hr ?_; (case hd => rfl); (case hg => rfl); (case hr => first | (go_simp; done) | (go_simp; rfl)); intro gb399 hg w4 hbox hb; have n0_ := Aside0.mk (blk_below (g := gb398) (pk BK398) hb); have n1_ := Aside0.mk (below_step (by repeat (first | (with_reducible first | exact HB.out | apply below_alloc | apply pw_below_drewN | apply below_drew1 | refine below_set ?_ GE398.out) | exact HB.out)) hb); have n2_ := Aside0.mk (hbox); have n3_ := Aside0.mk ((by rw [hg]; exact (below_size (by repeat (first | (with_reducible first | exact HB.out | apply below_alloc | apply pw_below_drewN | apply below_drew1 | refine below_set ?_ GE398.out) | exact HB.out))) : w.heap.size ≤ gb399)); have n4_ := Aside0.mk ((by rw [hg]; exact (below_size (by repeat (first | (with_reducible first | exact HB.out | apply below_alloc | apply pw_below_drewN | apply below_drew1 | refine below_set ?_ GE398.out) | exact HB.out))) : w.heap.size ≤ gb399)); have n5_ := Aside0.mk ((ne_lt hg (pk BK398) : gb398 ≠ gb399)); have n6_ := Aside0.mk ((ne_gt hg (pk BK398) : gb399 ≠ gb398)); clear BK398; clear HB; have BK398 := n0_; have HB := n1_; have BK399 := n2_; have GW399 := n3_; have GE399 := n4_; have NB398_399 := n5_; have NB399_398 := n6_; clear n0_ n1_ n2_ n3_ n4_ n5_ n6_; clear hb hbox hg; have hnb5 := NB398_399.out; have hnc5 := NB399_398.out; have hcz6_0 : w4.cell? ⟨gb398, 0, none⟩ = some (.string a0_0) := bc BK398 0; have hcz6_1 : w4.cell? ⟨gb398, 1, none⟩ = some (.string a0_1) := bc BK398 1; have hcz6_2 : w4.cell? ⟨gb398, 2, none⟩ = some (.int .i64 a0_2) := bc BK398 2; have hfz6_0 := blk_frozen BK398.out 0; have hfz6_1 := blk_frozen BK398.out 1; have hfz6_2 := blk_frozen BK398.out 2; have hcz7_0 : w4.cell? ⟨gb399, 0, none⟩ = some (.string a1_0) := bc BK399 0; have hcz7_1 : w4.cell? ⟨gb399, 1, none⟩ = some (.string a1_1) := bc BK399 1; have hcz7_2 : w4.cell? ⟨gb399, 2, none⟩ = some (.int .i64 a1_2) := bc BK399 2; have hfz7_0 := blk_frozen BK399.out 0; have hfz7_1 := blk_frozen BK399.out 1; have hfz7_2 := blk_frozen BK399.out 2))
  go_ret
  exact ⟨by first | rfl | (simp [errW_none, errW_some] <;> rfl) | (simp [*, errW_none, errW_some] <;> rfl), by repeat (first | (with_reducible first | exact HB.out | apply below_alloc | apply pw_below_drewN | apply below_drew1 | refine below_set ?_ GE398.out | refine below_set ?_ GE399.out) | exact HB.out)⟩

/-! ### spec_SameRoute: function 22 -/
/-- Are two targets the same; two lists of them. -/
def eqT (a b : S41) : Bool := a.f0.toList == b.f0.toList && (a.f1.toList == b.f1.toList && (a.f2 == b.f2))
def eqL : List S41 → List S41 → Bool
  | [], [] => true
  | x :: xs, y :: ys => eqT x y && eqL xs ys
  | _, _ => false
theorem eqL_len : ∀ (l m : List S41), l.length ≠ m.length → eqL l m = false
  | [], [], h => absurd rfl h
  | [], _ :: _, _ => rfl
  | _ :: _, [], _ => rfl
  | x :: xs, y :: ys, h => by rw [eqL, eqL_len xs ys (fun e => h (by simp [e])), Bool.and_false]
theorem eqL_step (l m : List S41) (x : Int) (h0 : 0 ≤ x) (h1 : x < (l.length : Int)) (h2 : x < (m.length : Int)) : eqL (l.drop x.toNat) (m.drop x.toNat) = (eqT (rd_T41 l x) (rd_T41 m x) && eqL (l.drop (x + 1).toNat) (m.drop (x + 1).toNat)) := by
  have hn : x.toNat < l.length := by omega
  have hm : x.toNat < m.length := by omega
  rw [show (x + 1).toNat = x.toNat + 1 by omega, List.drop_eq_getElem_cons hn, List.drop_eq_getElem_cons hm, eqL]
  unfold rd_T41
  rw [List.getD_eq_getElem?_getD, List.getElem?_eq_getElem hn, Option.getD_some, List.getD_eq_getElem?_getD, List.getElem?_eq_getElem hm, Option.getD_some]
theorem eqL_end (l m : List S41) (x : Int) (h1 : ¬ x < (l.length : Int)) (h2 : l.length = m.length) (h0 : 0 ≤ x) : eqL (l.drop x.toNat) (m.drop x.toNat) = true := by
  rw [List.drop_eq_nil_of_le (by omega), List.drop_eq_nil_of_le (by omega), eqL]
set_option maxHeartbeats 8000000 in
set_option maxRecDepth 100000 in
theorem equal_walk (A : Option Addr) (c : Nat) (l : List S41) (B : Option Addr) (d : Nat) (m : List S41) (w : World) (hr : Kd.C k41 w A l.length l) (hs : Kd.C k41 w B m.length m) :
    Calls Tryd.prog 32 #[.slice A l.length c, .slice B m.length d, .func (.func 33) #[] #[]] w fun e w' => e = .returned (.bool (eqL l m)) ∧ Below w.heap.size w w' := by
  have hm : (l.length : Int) ≤ 9223372036854775807 := by have := Kd.C_max hr; omega
  have HR := Aside0.mk hr
  have HS := Aside0.mk hs
  clear hr hs
  obtain ⟨res, hres⟩ : ∃ r : Bool, eqL l m = r := ⟨_, rfl⟩
  have HE : Aside0 (eqL (l.drop (0 : Int).toNat) (m.drop (0 : Int).toNat) = res) := ⟨by simpa using hres⟩
  rw [hres]
  by_cases hl : l.length = m.length
  · have h1 : ((l.length : Int) != (m.length : Int)) = false := by rw [hl]; simp
    have h2 : (l.length != m.length) = false := by rw [hl]; simp
    have HL := Aside0.mk hl
    have hle : m.length ≤ l.length := by omega
    have hge : l.length ≤ m.length := by omega
    have h3 := eq_true hl
    clear hl hres
    go_enter Tryd.func32, Tryd.ntmps32
    go_wp2_with fail
    clear h3 h1 h2
    go_loopw [17] (fun v8 w' => ∃ x : Int, 0 ≤ x ∧ x ≤ (l.length : Int) ∧ v8 = .int .i64 x ∧ Aside0 (eqL (l.drop x.toNat) (m.drop x.toNat) = res) ∧ Aside0 (Below w.heap.size w w')) (fun v8 w' => l.length - (intOf v8).toNat)
    case atStart => exact ⟨0, by omega, by omega, rfl, HE, ⟨Below.refl _ _⟩⟩
    case round =>
      obtain ⟨x, hx0, hx1, rfl, HI, HB⟩ := hrel
      by_cases hlt : x < (l.length : Int)
      · have hlt2 : x < (m.length : Int) := by omega
        have hst := eqL_step l m x hx0 hlt hlt2
        rw [HI.out] at hst
        have hr' := Kd.C_below HR.out HB.out
        obtain ⟨ad, e, p0, p1, p2⟩ := at_T41 hr' x hx0 hlt
        subst e
        clear hr'
        have hx2 : wrap64 (x + 1) = x + 1 := by unfold wrap64; omega
        have hx3 := eq_true hx0
        have hx4 := eq_true hlt
        have hx5 := eq_true hlt2
        have hdec : decide (x < (l.length : Int)) = true := decide_eq_true hlt
        generalize hq : rd_T41 l x = y at p0 p1 p2 hst
        clear hq
        obtain ⟨y0, y1, y2⟩ := y
        obtain ⟨bd, e, q0, q1, q2⟩ := at_T41 (Kd.C_alloc (Kd.C_below HS.out HB.out) (.cells #[.string y0, .string y1, .int .i64 y2] 41)) x hx0 hlt2
        subst e
        generalize hq2 : rd_T41 m x = z at q0 q1 q2 hst
        clear hq2
        obtain ⟨z0, z1, z2⟩ := z
        simp only at p0 p1 p2 q0 q1 q2
        obtain ⟨q, hq⟩ : ∃ q : Bool, eqT ⟨y0, y1, y2⟩ ⟨z0, z1, z2⟩ = q := ⟨_, rfl⟩
        have hcall := fun (W : World) => spec_same.calls y0 y1 y2 z0 z1 z2 q W (by rw [← hq]; rfl)
        have HC := Lib.hid hcall
        rw [hq] at hst
        clear hcall hq
        cases q with
        | true =>
          have HST := Aside0.mk hst
          clear hst
          go_wp2_with (go_at_call 33; refine (HC.out _).mono ?_; rintro e w2 ⟨rfl, hb2⟩; have HB2 := Aside0.mk (below_step (below_alloc (below_alloc HB.out _) _) hb2); clear hb2)
          go_roundw
          case rel => exact ⟨x + 1, by omega, by omega, by first | rfl | rw [hx2], ⟨HST.out.symm⟩, HB2⟩
          case measure => simp [intOf]; omega
        | false =>
          have HST := Aside0.mk hst
          clear hst
          go_wp2_with (go_at_call 33; refine (HC.out _).mono ?_; rintro e w2 ⟨rfl, hb2⟩; have HB2 := Aside0.mk (below_step (below_alloc (below_alloc HB.out _) _) hb2); clear hb2)
          go_ret
          exact ⟨by rw [HST.out]; rfl, HB2.out⟩
      · have hen := eqL_end l m x hlt HL.out hx0
        rw [HI.out] at hen
        subst hen
        have hdec : decide (x < (l.length : Int)) = false := decide_eq_false hlt
        have hdec2 := eq_false hlt
        go_wp2_with fail
        go_ret
        exact ⟨rfl, HB.out⟩
  · have h1 : ((l.length : Int) != (m.length : Int)) = true := by rw [bne_iff_ne]; omega
    have h2 : (l.length != m.length) = true := by rw [bne_iff_ne]; omega
    have h3 := eq_false hl
    have hf := eqL_len l m hl
    rw [hres] at hf
    clear hl hres HE
    subst hf
    go_enter Tryd.func32, Tryd.ntmps32
    go_wp2_with fail
    go_ret
    exact ⟨rfl, Below.refl _ _⟩
def spec_SameRoute.f (a0_0 : ByteArray) (a0_1 : ByteArray) (l0_2 : List (S41)) (a0_3 : Int) (a1_0 : ByteArray) (a1_1 : ByteArray) (l1_2 : List (S41)) (a1_3 : Int) : Option Bool :=
  some (a0_0.toList == a1_0.toList && a0_1.toList == a1_1.toList && a0_3 == a1_3 && eqL l0_2 l1_2)
set_option maxHeartbeats 8000000 in
set_option maxRecDepth 100000 in
theorem spec_SameRoute.calls (a0_0 : ByteArray) (a0_1 : ByteArray) (A0_2 : Option Addr) (c0_2 : Nat) (l0_2 : List (S41)) (a0_3 : Int) (a1_0 : ByteArray) (a1_1 : ByteArray) (A1_2 : Option Addr) (c1_2 : Nat) (l1_2 : List (S41)) (a1_3 : Int) (r : Bool) (w : World) (hr0_2 : Kd.C k41 w A0_2 l0_2.length l0_2) (hc0_2 : l0_2.length ≤ c0_2) (hr1_2 : Kd.C k41 w A1_2 l1_2.length l1_2) (hc1_2 : l1_2.length ≤ c1_2) (h : spec_SameRoute.f a0_0 a0_1 l0_2 a0_3 a1_0 a1_1 l1_2 a1_3 = some r) :
    Calls Tryd.prog 22 #[.agg #[.string a0_0, .string a0_1, .slice A0_2 l0_2.length c0_2, .int .i64 a0_3], .agg #[.string a1_0, .string a1_1, .slice A1_2 l1_2.length c1_2, .int .i64 a1_3]] w fun e w' => e = .returned (.bool r) ∧ Below w.heap.size w w' := by
  have hr := Option.some.inj h
  clear h
  obtain ⟨b0, e0⟩ : ∃ b : Bool, (a0_0.toList == a1_0.toList) = b := ⟨_, rfl⟩
  obtain ⟨b1, e1⟩ : ∃ b : Bool, (a0_1.toList == a1_1.toList) = b := ⟨_, rfl⟩
  obtain ⟨b3, e3⟩ : ∃ b : Bool, (a0_3 == a1_3) = b := ⟨_, rfl⟩
  obtain ⟨b4, e4⟩ : ∃ b : Bool, eqL l0_2 l1_2 = b := ⟨_, rfl⟩
  have f0 : (a0_0.toList = a1_0.toList) = (b0 = true) := by rw [← e0, beq_iff_eq]
  have f1 : (a0_1.toList = a1_1.toList) = (b1 = true) := by rw [← e1, beq_iff_eq]
  have f3 : (a0_3 = a1_3) = (b3 = true) := by rw [← e3, beq_iff_eq]
  rw [e0, e1, e3, e4] at hr
  have hcall := fun (W : World) h1 h2 => equal_walk A0_2 c0_2 l0_2 A1_2 c1_2 l1_2 W h1 h2
  rw [e4] at hcall
  have HC := Lib.hid hcall
  clear hcall e4
  have HR := Aside0.mk hr
  have HR0 := Aside0.mk (Kd.C_alloc (Kd.C_alloc hr0_2 (.cells #[.string a0_0, .string a0_1, .slice A0_2 l0_2.length c0_2, .int .i64 a0_3] 35)) (.cells #[.string a1_0, .string a1_1, .slice A1_2 l1_2.length c1_2, .int .i64 a1_3] 35))
  have HR1 := Aside0.mk (Kd.C_alloc (Kd.C_alloc hr1_2 (.cells #[.string a0_0, .string a0_1, .slice A0_2 l0_2.length c0_2, .int .i64 a0_3] 35)) (.cells #[.string a1_0, .string a1_1, .slice A1_2 l1_2.length c1_2, .int .i64 a1_3] 35))
  clear hr hr0_2 hr1_2
  cases b0
  all_goals cases b1
  all_goals cases b3
  all_goals
    simp only [Bool.false_eq_true, eq_self] at f0 f1 f3
    go_enter Tryd.func22, Tryd.ntmps22
    go_wp2_with (go_at_call 32; refine (HC.out _ HR0.out HR1.out).mono ?_; rintro e w2 ⟨rfl, hb2⟩)
    go_ret
    refine ⟨?_, ?_⟩
    · have h1 := HR.out
      simp only [Bool.and_false, Bool.false_and, Bool.true_and] at h1
      subst h1
      rfl
    · first | exact below_alloc (below_alloc (Below.refl _ _) _) _ | exact below_step (below_alloc (below_alloc (Below.refl _ _) _) _) hb2

end Go.Proofs.YthdpnbfjpbiieaaDoor.Ma
