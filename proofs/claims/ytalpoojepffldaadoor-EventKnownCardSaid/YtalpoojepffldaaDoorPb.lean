-- Written by a program of this session (wip/tools/pack.py) out of its printed parts. Not trusted: Lean checks it.
import Derived.Test.YtalpoojepffldaaDoorMax0
import Derived.Test.YtalpoojepffldaaDoorPa
namespace Go.Proofs.YtalpoojepffldaaDoor.Ma
open Go.RowKit Go.Proofs.YtalpoojepffldaaDoorW.PrintWords Go.Proofs.YtalpoojepffldaaDoorW.PrintLast Go.Proofs.YtalpoojepffldaaDoorW.PrintMore
attribute [local go_sem] max2_int min2_int max_two min_two max_three min_three max_four min_four   -- for this text's walks alone
set_option linter.unusedVariables false
set_option linter.unusedSimpArgs false

section
/-! ### label_Split: function 69 -/
/-- How label.Split parts a text: at the last '-'; behind it a number, of which Rev makes the same text. -/
def splitAt (s : ByteArray) (i : Nat) : Option (ByteArray × Int × Bool) :=
  match Lib.atoiAll (s.extract (i + 1) s.size).data.toList with
  | .ok v => (label_Rev.f 1 (s.extract 0 i) v).bind fun r => if r.toList = s.toList then some (s.extract 0 i, v, true) else some (⟨#[]⟩, 0, false)
  | _ => some (⟨#[]⟩, 0, false)
def label_Split.f (a0 : ByteArray) : Option (ByteArray × Int × Bool) :=
  if a0.size ≤ 140737488351232 then
    if Lib.lastIndexByte a0 45 < 0 then some (⟨#[]⟩, 0, false) else splitAt a0 (Lib.lastIndexByte a0 45).toNat
  else none
theorem last_bounds (s : ByteArray) (h : ¬ Lib.lastIndexByte s 45 < 0) : ∃ i : Nat, i < s.size ∧ Lib.lastIndexByte s 45 = (i : Int) := by
  rcases Lib.lastIdx_spec s 45 s.size with ⟨e, _⟩ | ⟨i, hi, e, _⟩
  · exact absurd (show Lib.lastIndexByte s 45 < 0 by unfold Lib.lastIndexByte; omega) h
  · exact ⟨i, hi, e⟩
theorem atoi_world {w w' : World} (h : w' = w ∨ ∃ t, w' = Lib.bytesWorld w 5 t) : Below w.heap.size w w' := by
  rcases h with rfl | ⟨t, rfl⟩
  · exact Below.refl _ _
  · exact Lib.bytesWorld_below _ _ _
set_option maxHeartbeats 8000000 in
set_option maxRecDepth 100000 in
theorem label_Split.calls (a0 : ByteArray) (r1 : ByteArray) (r2 : Int) (r3 : Bool) (w : World) (hLd_ : Aside0 (LaidW w)) (h : label_Split.f a0 = some (r1, r2, r3)) :
    Calls Tryd.prog 69 #[.string a0] w fun e w' => e = .returned (.tuple #[.string r1, .int .i64 r2, .bool r3]) ∧ Below w.heap.size w w' := by
  unfold label_Split.f at h; by_cases hsz : a0.size ≤ 140737488351232
  case neg => rw [if_neg hsz] at h; cases h
  rw [if_pos hsz] at h; have hLI := Tryd.strings_LastIndex_one a0 ⟨#[45]⟩ rfl (by omega) w; have hLI : Calls Tryd.prog 80 #[.string a0, .string ⟨#[45]⟩] w fun e w' => e = .returned (.int .i64 (Lib.lastIndexByte a0 45)) ∧ w' = w := hLI; by_cases hneg : Lib.lastIndexByte a0 45 < 0
  · rw [if_pos hneg] at h; (obtain ⟨rfl, rfl, rfl⟩ : (⟨#[]⟩ : ByteArray) = r1 ∧ (0 : Int) = r2 ∧ false = r3 := by injection h with h; injection h with h1 h2; injection h2 with h2 h3; exact ⟨h1, h2, h3⟩); generalize Lib.lastIndexByte a0 45 = li at hLI hneg; have hn1 : decide (li < 0) = true := decide_eq_true hneg; go_enter Tryd.func69, Tryd.ntmps69; go_wp2_with (go_at_call 80; refine hLI.mono ?_; rintro e w' ⟨rfl, rfl⟩); go_wp2; go_ret3; exact ⟨rfl, Below.refl _ _⟩
  · rw [if_neg hneg] at h; obtain ⟨i, hi, e⟩ := last_bounds a0 hneg; rw [e] at hLI h hneg; clear hneg e; rw [show ((i : Nat) : Int).toNat = i from rfl] at h; unfold splitAt at h; generalize hT : a0.extract (i + 1) a0.size = t at h; (have htsz : t.size ≤ 140737488351232 := by rw [← hT]; simp; omega); have hA : (Tryd.prog.funcs.size = Tryd.prog.funcs.size) := rfl
    have hi1 : (IntKind.i64.wrap ((i : Int) + 1)) = ((i + 1 : Nat) : Int) := by
      rw [i64_w]; unfold wrap64; omega
    have hng : decide ((i : Int) < 0) = false := decide_eq_false (by omega); have g1 : decide ((i : Int) + 1 ≤ (a0.size : Int)) = true := decide_eq_true (by omega); have g2 : decide ((0 : Int) ≤ (i : Int) + 1) = true := decide_eq_true (by omega); rcases hE : Lib.atoiAll t.data.toList with v | _ | _
    · rw [hE] at h; obtain ⟨rr, hR, h⟩ := Option.bind_eq_some_iff.mp h; have hAt := Tryd.strconv_Atoi_ok t (by omega) v hE; by_cases hq : rr.toList = a0.toList
      · rw [if_pos hq] at h; (obtain ⟨rfl, rfl, rfl⟩ : a0.extract 0 i = r1 ∧ v = r2 ∧ true = r3 := by injection h with h; injection h with h1 h2; injection h2 with h2 h3; exact ⟨h1, h2, h3⟩); (have a3 : (rr.toList != a0.toList) = false := by rw [hq]; simp); have a4 : (rr.toList = a0.toList) = True := eq_true hq; (have a5 : (rr.toList == a0.toList) = true := by rw [hq]; simp); go_enter Tryd.func69, Tryd.ntmps69; go_wp2_with (first | (go_at_call 80; refine hLI.mono ?_; rintro e w' ⟨rfl, rfl⟩) | (go_at_call 81; refine (hAt _).mono ?_; rintro e w1 ⟨rfl, hW⟩; have a1 := atoi_world hW; clear hW) | (go_at_call 82; refine (label_Rev.calls 1 (a0.extract 0 i) v rr _ ⟨hLd_.out.below a1⟩ hR).mono ?_; rintro e w2 ⟨rfl, a2⟩)); go_wp2; go_ret3; exact ⟨rfl, a1.trans (a2.mono a1.size)⟩
      · rw [if_neg hq] at h; (obtain ⟨rfl, rfl, rfl⟩ : (⟨#[]⟩ : ByteArray) = r1 ∧ (0 : Int) = r2 ∧ false = r3 := by injection h with h; injection h with h1 h2; injection h2 with h2 h3; exact ⟨h1, h2, h3⟩); (have a3 : (rr.toList != a0.toList) = true := by simpa using hq); have a4 : (rr.toList = a0.toList) = False := eq_false hq; (have a5 : (rr.toList == a0.toList) = false := by simpa using hq); go_enter Tryd.func69, Tryd.ntmps69; go_wp2_with (first | (go_at_call 80; refine hLI.mono ?_; rintro e w' ⟨rfl, rfl⟩) | (go_at_call 81; refine (hAt _).mono ?_; rintro e w1 ⟨rfl, hW⟩; have a1 := atoi_world hW; clear hW) | (go_at_call 82; refine (label_Rev.calls 1 (a0.extract 0 i) v rr _ ⟨hLd_.out.below a1⟩ hR).mono ?_; rintro e w2 ⟨rfl, a2⟩)); go_wp2; go_ret3; exact ⟨rfl, a1.trans (a2.mono a1.size)⟩
    · rw [hE] at h; (obtain ⟨rfl, rfl, rfl⟩ : (⟨#[]⟩ : ByteArray) = r1 ∧ (0 : Int) = r2 ∧ false = r3 := by injection h with h; injection h with h1 h2; injection h2 with h2 h3; exact ⟨h1, h2, h3⟩); obtain ⟨_, ⟨tp, p, hvar⟩, _⟩ := hLd_.out; have hAt := Any.strconv_Atoi_syntax_var Tryd.laysC172 t (by omega) hE tp p w hvar; clear hvar; go_enter Tryd.func69, Tryd.ntmps69; go_wp2_with (first | (go_at_call 80; refine hLI.mono ?_; rintro e w' ⟨rfl, rfl⟩) | (go_at_call 81; refine hAt.mono ?_; rintro e w1 ⟨N, rfl, _, _, a1⟩)); go_wp2; go_ret3; exact ⟨rfl, a1⟩
    · rw [hE] at h; (obtain ⟨rfl, rfl, rfl⟩ : (⟨#[]⟩ : ByteArray) = r1 ∧ (0 : Int) = r2 ∧ false = r3 := by injection h with h; injection h with h1 h2; injection h2 with h2 h3; exact ⟨h1, h2, h3⟩); obtain ⟨_, _, ⟨tp, p, hvar⟩⟩ := hLd_.out; have hAt := Any.strconv_Atoi_range_var Tryd.laysC172 t (by omega) hE tp p w hvar; clear hvar; go_enter Tryd.func69, Tryd.ntmps69; go_wp2_with (first | (go_at_call 80; refine hLI.mono ?_; rintro e w' ⟨rfl, rfl⟩) | (go_at_call 81; refine hAt.mono ?_; rintro e w1 ⟨N, rfl, _, _, a1⟩)); go_wp2; go_ret3; exact ⟨rfl, a1⟩
end

section
/-! ### event_named: function 36 -/
def event_named.j0 : Nat → Bool → Int → ByteArray → ByteArray → Int → Int → ByteArray → Int → Int → Int → Int → Int → ByteArray → ByteArray → List (S39) → Int → Option (Bool)
  | 0, _, _, _, _, _, _, _, _, _, _, _, _, _, _, _, _ => none
  | k + 1, a1, a4, a0, a5, a6, a7, a8, a9, b0, b1, b2, b3, b4, b5, b6, b7 => if a1 = true then ((label_Split.f a0).bind fun a2 => (some a2.2.2)) else ((label_Name.f a0).bind fun a3 => (some a3))
def event_named.f (k : Nat) (a0 : Int) (a1 : ByteArray) (a2 : ByteArray) (a3 : Int) (a4 : Int) (a5 : ByteArray) (a6 : Int) (a7 : Int) (a8 : Int) (a9 : Int) (b0 : Int) (b1 : ByteArray) (b2 : ByteArray) (b3 : List (S39)) (b4 : Int) : Option (Bool) := if a0 = 12 then (event_named.j0 k true a0 a1 a2 a3 a4 a5 a6 a7 a8 a9 b0 b1 b2 b3 b4) else (event_named.j0 k (a0 == 13) a0 a1 a2 a3 a4 a5 a6 a7 a8 a9 b0 b1 b2 b3 b4)
set_option maxHeartbeats 8000000 in
set_option maxRecDepth 100000 in
theorem event_named.calls (k : Nat) (a1 : Int) (a2 : ByteArray) (a6 : ByteArray) (a7 : Int) (a8 : Int) (a9 : ByteArray) (b0 : Int) (b1 : Int) (b2 : Int) (b3 : Int) (b4 : Int) (b5 : ByteArray) (b6 : ByteArray) (c0 : Option Addr) (c1 : Nat) (a3 : List (S39)) (b7 : Int) (r : Bool) (w : World) (hLd_ : Aside0 (LaidW w)) (c5 : Kd.C k39 w c0 a3.length a3) (c6 : a3.length ≤ c1) (h : event_named.f k a1 a2 a6 a7 a8 a9 b0 b1 b2 b3 b4 b5 b6 a3 b7 = some r) :
    Calls Tryd.prog 36 #[.agg (eV a1 a2 a6 a7 a8 a9 b0 b1 b2 b3 b4 b5 b6 (.slice c0 a3.length c1) b7)] w fun e w' => e = .returned (.bool r) ∧ Below w.heap.size w w' := by
  have hu28 := Tryd.underlying28; have d8 := Aside0.mk c5; have d9 := Aside0.mk c6; clear c5 c6; have HB := Aside0.mk (Below.refl w.heap.size w); have H : (if a1 = 12 then (event_named.j0 k true a1 a2 a6 a7 a8 a9 b0 b1 b2 b3 b4 b5 b6 a3 b7) else (event_named.j0 k (a1 == 13) a1 a2 a6 a7 a8 a9 b0 b1 b2 b3 b4 b5 b6 a3 b7)) = some r := h; clear h; have c3 := Aside0.mk H; clear H; go_enter Tryd.func36, Tryd.ntmps36; go_upto_region 1 with (first | ((with_reducible refine gate_dst (N := 1) rfl ?_); refine box_event ?hg (N := 1) ?hd (cs := (eV a1 a2 a6 a7 a8 a9 b0 b1 b2 b3 b4 b5 b6 (.slice c0 a3.length c1) b7)) (t := 28) ?hr ?_; (case hd => rfl); (case hg => rfl); (case hr => first | (go_simp; done) | (go_simp; rfl)); intro b9 hg w3 hbox hb; have a4 := Aside0.mk (below_step (bw0 HB) hb); have a5 := Aside0.mk (hbox); have c8 := Aside0.mk ((by rw [hg]; exact (below_size (bw0 HB)) : w.heap.size ≤ b9)); have c9 := Aside0.mk ((by rw [hg]; exact (below_size (bw0 HB)) : w.heap.size ≤ b9)); clear HB; have HB := a4; have a0 := a5; have e0 := c8; have b8 := c9; clear a4 a5 c8 c9; clear hb hbox hg))
  (try simp only [Act.put, List.setIfInBounds_toArray, List.set_cons_zero, List.set_cons_succ])
  go_cut [13] (fun d2 wc => ∃ (kq : Nat) (c2 : Bool), d2 = .bool c2 ∧ Aside0 (event_named.j0 kq c2 a1 a2 a6 a7 a8 a9 b0 b1 b2 b3 b4 b5 b6 a3 b7 = some r) ∧ Aside0 (kq ≤ k) ∧ Aside0 (wc.heap[b9]? = some (.cells (eV a1 a2 a6 a7 a8 a9 b0 b1 b2 b3 b4 b5 b6 (.slice c0 a3.length c1) b7) 28 (0, 0))) ∧ Aside0 (Below w.heap.size w wc))
  case first =>
    have H := c3.out; clear c3; by_cases c4 : a1 = 12
    · rw [if_pos c4] at H; have c4b0 : (a1 == 12) = true := beq_iff_eq.mpr c4; have c4b1 : (a1 != 12) = false := bne_eq_false_iff_eq.mpr c4; clear c4
      (first | rw [c4b0] | (simp only [i64_w, i32_w]; rw [c4b0]) | rw [c4b1] | skip)
      have H' := Aside0.mk H; clear H; obtain ⟨e1, e2, e3, e4, e5, e6, e7, e8, e9, f0, f1, f2, f3, f4, f5⟩ := cz15 a0; obtain ⟨f6, f7, f8, f9, g0, g1, g2, g3, g4, g5, g6, g7, g8, g9, h0⟩ := fz15 a0; go_wp2; go_meet
      case rel => exact ⟨_, (true), au4, H', ⟨au5⟩, ⟨pq a0⟩, ⟨bw1 HB b8⟩⟩
    · rw [if_neg c4] at H; have c4b0 : (a1 == 12) = false := beq_eq_false_iff_ne.mpr c4; have c4b1 : (a1 != 12) = true := bne_iff_ne.mpr c4
      (first | rw [c4b0] | (simp only [i64_w, i32_w]; rw [c4b0]) | rw [c4b1] | skip)
      have H' := Aside0.mk H; clear H; obtain ⟨h1, h2, h3, h4, h5, h6, h7, h8, h9, i0, i1, i2, i3, i4, i5⟩ := cz15 a0; obtain ⟨i6, i7, i8, i9, j1, j2, j3, j4, j5, j6, j7, j8, j9, k0, k1⟩ := fz15 a0; go_wp2; go_meet
      case rel => exact ⟨_, ((a1 == 13)), au4, H', ⟨au5⟩, ⟨pq a0⟩, ⟨bw1 HB b8⟩⟩
  case rest =>
    clear c3; obtain ⟨kq, c2, rfl, HA, HJ1, a0, HB⟩ := hcut
    cases kq with
    | zero => exact absurd HA.out (by simp [event_named.j0])
    | succ kj1 =>
      have H := HA.out; clear HA; simp only [event_named.j0] at H; by_cases c7 : c2 = true
      · subst c7; rw [if_pos rfl] at H; replace H := Option.bind_eq_some_iff.mp H; obtain ⟨⟨d3, d4, d5⟩, d0, H⟩ := H
        (try dsimp only at H)
        have A8 := Aside0.mk d0; clear d0; obtain rfl := Option.some.inj H; obtain ⟨k2, k3, k4, k5, k6, k7, k8, k9, l0, l1, l2, l3, l4, l5, l6⟩ := cz15 a0; obtain ⟨l7, l8, l9, m0, m1, m2, m3, m4, m5, m6, m7, m8, m9, n0, n1⟩ := fz15 a0; go_wp2_with (first | ((with_reducible refine gate_callee (f := 69) rfl ?_); refine goesL_ (some 17) rfl rfl Tryd.func69 (by kernel_rfl) rfl #[.string a2] rfl au1 ?_; (with_reducible refine (label_Split.calls a2 d3 d4 d5 _ ?side1 A8.out).mono ?_); (case side1 => first | exact hLd_.out | exact hLd_ | exact ⟨LaidW.below hLd_.out (bw1 HB b8)⟩ | exact ⟨LaidW.below hLd_.out (by repeat (first | exact Below.refl _ _ | apply below_alloc | apply pw_below_drewN | apply below_drew1))⟩); rintro e w10 ⟨rfl, hb⟩; refine ⟨_, rfl, ?_⟩; have a4 := Aside0.mk (blk_below (g := b9) (pk a0) hb); have a5 := Aside0.mk (below_step (bw1 HB b8) hb); clear a0; clear HB; have a0 := a4; have HB := a5; clear a4 a5; (try clear hb); (try clear hb2); (try clear hk); (try clear hi))); go_ret; exact ⟨au3, bw1 HB b8⟩
      · replace c7 := Bool.eq_false_iff.mpr c7; subst c7; rw [if_neg (show ¬ (false = true) by decide)] at H; replace H := Option.bind_eq_some_iff.mp H; obtain ⟨d6, d1, H⟩ := H
        (try dsimp only at H)
        have d7 := Aside0.mk d1; clear d1; obtain rfl := Option.some.inj H; obtain ⟨n2, n3, n4, n5, n6, n7, n8, n9, o0, o1, o2, o3, o4, o5, o6⟩ := cz15 a0; obtain ⟨o7, o8, o9, p0, p1, p2, p3, p4, p5, p6, p7, p8, p9, q0, q1⟩ := fz15 a0; go_wp2_with (first | ((with_reducible refine gate_callee (f := 70) rfl ?_); refine goesL_ (some 24) rfl rfl Tryd.func70 (by kernel_rfl) rfl #[.string a2] rfl au1 ?_; (with_reducible refine (label_Name.calls a2 d6 _ d7.out).mono ?_); rintro e w13 ⟨rfl, hb⟩; refine ⟨_, rfl, ?_⟩; have a4 := Aside0.mk (blk_below (g := b9) (pk a0) hb); have a5 := Aside0.mk (below_step (bw1 HB b8) hb); clear a0; clear HB; have a0 := a4; have HB := a5; clear a4 a5; (try clear hb); (try clear hb2); (try clear hk); (try clear hi))); go_ret; exact ⟨au3, bw1 HB b8⟩
end

section
/-! ### label_Tag: function 37 -/
def label_Tag.f (a0 : ByteArray) : Option (Bool) := (label_short.f a0 8).bind fun a1 => (some a1)
set_option maxHeartbeats 8000000 in
set_option maxRecDepth 100000 in
theorem label_Tag.calls (a0 : ByteArray) (r : Bool) (w : World) (h : label_Tag.f a0 = some r) :
    Calls Tryd.prog 37 #[.string a0] w fun e w' => e = .returned (.bool r) ∧ Below w.heap.size w w' := by
  have HB := Aside0.mk (Below.refl w.heap.size w); have H : ((label_short.f a0 8).bind fun a1 => (some a1)) = some r := h; clear h; replace H := Option.bind_eq_some_iff.mp H; obtain ⟨a1, a2, H⟩ := H
  (try dsimp only at H)
  have A2 := Aside0.mk a2; clear a2; obtain rfl := Option.some.inj H; go_enter Tryd.func37, Tryd.ntmps37; go_wp2_with (first | ((with_reducible refine gate_callee (f := 71) rfl ?_); refine goesL_ (some 4) rfl rfl Tryd.func71 (by kernel_rfl) rfl #[.string a0, .int .i64 8] rfl au1 ?_; (with_reducible refine (label_short.calls a0 8 a1 _ A2.out).mono ?_); rintro e w3 ⟨rfl, hb⟩; refine ⟨_, rfl, ?_⟩; have a3 := Aside0.mk (below_step (bw0 HB) hb); clear HB; have HB := a3; clear a3; (try clear hb); (try clear hb2); (try clear hk); (try clear hi))); go_ret; exact ⟨au3, bw0 HB⟩
end

section
/-! ### spec_span_has: function 72 -/
def spec_span_has.f (a0 : Int) (a2 : Int) (a1 : Int) : Option (Bool) := if a1 ≥ a0 then (some (decide (a1 ≤ a2))) else (some false)
set_option maxHeartbeats 8000000 in
set_option maxRecDepth 100000 in
theorem spec_span_has.calls (a0 : Int) (a2 : Int) (a1 : Int) (r : Bool) (w : World) (h : spec_span_has.f a0 a2 a1 = some r) :
    Calls Tryd.prog 72 #[.agg #[.int .i64 a0, .int .i64 a2], .int .i64 a1] w fun e w' => e = .returned (.bool r) ∧ Below w.heap.size w w' := by
  have b1 := Tryd.underlying107; have HB := Aside0.mk (Below.refl w.heap.size w); have H : (if a1 ≥ a0 then (some (decide (a1 ≤ a2))) else (some false)) = some r := h; clear h; by_cases c3 : a1 ≥ a0
  · rw [if_pos c3] at H; have c3b0 : decide (a0 ≤ a1) = true := decide_eq_true c3; clear c3; obtain rfl := Option.some.inj H; go_enter Tryd.func72, Tryd.ntmps72; go_wp2_with (first | ((with_reducible refine gate_dst (N := 2) rfl ?_); refine box_event ?hg (N := 2) ?hd (cs := #[.int .i64 a0, .int .i64 a2]) (t := 107) ?hr ?_; (case hd => rfl); (case hg => rfl); (case hr => first | (go_simp; done) | (go_simp; rfl)); intro a3 hg w4 hbox hb; have a4 := Aside0.mk (below_step (bw0 HB) hb); have a5 := Aside0.mk (hbox); have a6 := Aside0.mk ((by rw [hg]; exact (below_size (bw0 HB)) : w.heap.size ≤ a3)); have a7 := Aside0.mk ((by rw [hg]; exact (below_size (bw0 HB)) : w.heap.size ≤ a3)); clear HB; have HB := a4; have a8 := a5; have b0 := a6; have a9 := a7; clear a4 a5 a6 a7; clear hb hbox hg; obtain ⟨b2, b3⟩ := cz2 a8; obtain ⟨b4, b5⟩ := fz2 a8)); go_ret; exact ⟨au3, bw1 HB a9⟩
  · rw [if_neg c3] at H; have c3b0 : decide (a0 ≤ a1) = false := decide_eq_false c3; clear c3; obtain rfl := Option.some.inj H; go_enter Tryd.func72, Tryd.ntmps72; go_wp2_with (first | ((with_reducible refine gate_dst (N := 2) rfl ?_); refine box_event ?hg (N := 2) ?hd (cs := #[.int .i64 a0, .int .i64 a2]) (t := 107) ?hr ?_; (case hd => rfl); (case hg => rfl); (case hr => first | (go_simp; done) | (go_simp; rfl)); intro a3 hg w6 hbox hb; have a4 := Aside0.mk (below_step (bw0 HB) hb); have a5 := Aside0.mk (hbox); have a6 := Aside0.mk ((by rw [hg]; exact (below_size (bw0 HB)) : w.heap.size ≤ a3)); have a7 := Aside0.mk ((by rw [hg]; exact (below_size (bw0 HB)) : w.heap.size ≤ a3)); clear HB; have HB := a4; have a8 := a5; have b0 := a6; have a9 := a7; clear a4 a5 a6 a7; clear hb hbox hg; obtain ⟨b6, b7⟩ := cz2 a8; obtain ⟨b8, b9⟩ := fz2 a8)); go_ret; exact ⟨au3, bw1 HB a9⟩
end

section
/-! ### spec_Config: function 39 -/
def spec_Config.j0 : Nat → Bool → Option (Int)
  | 0, _ => none
  | k + 1, x8 => if x8 = true then (some 2) else (some 0)
def spec_Config.f (k : Nat) (a5 : ByteArray) (a6 : Int) (a7 : Int) (a8 : Int) (a0 : Int) (a9 : Int) : Option (Int) := (label_Name.f a5).bind fun b0 => (if b0 = true then ((spec_span_has.f 0 255 a6).bind fun a1 => (if a1 = true then ((spec_span_has.f 1 8 a7).bind fun a2 => (if a2 = true then ((spec_span_has.f 1 10 a0).bind fun a3 => (if a3 = true then ((spec_span_has.f 0 a0 a8).bind fun a4 => (if a4 = true then ((spec_span_has.f 0 30 a9).bind fun b1 => (spec_Config.j0 k (!b1))) else (spec_Config.j0 k (!a4)))) else (spec_Config.j0 k (!a3)))) else (spec_Config.j0 k (!a2)))) else (spec_Config.j0 k (!a1)))) else (some 1))
set_option maxHeartbeats 8000000 in
set_option maxRecDepth 100000 in
theorem spec_Config.calls (k : Nat) (a7 : ByteArray) (a9 : Int) (a6 : Int) (a8 : Int) (a5 : Int) (b0 : Int) (r : Int) (w : World) (h : spec_Config.f k a7 a9 a6 a8 a5 b0 = some r) :
    Calls Tryd.prog 39 #[.agg #[.string a7, .int .i64 a9, .int .i64 a6, .int .i64 a8, .int .i64 a5, .int .i64 b0]] w fun e w' => e = .returned (.int .i64 r) ∧ Below w.heap.size w w' := by
  have hu23 := Tryd.underlying23; have g2 := Tryd.underlying107; have HB := Aside0.mk (Below.refl w.heap.size w); have H : ((label_Name.f a7).bind fun c6 => (if c6 = true then ((spec_span_has.f 0 255 a9).bind fun b1 => (if b1 = true then ((spec_span_has.f 1 8 a6).bind fun b4 => (if b4 = true then ((spec_span_has.f 1 10 a5).bind fun b5 => (if b5 = true then ((spec_span_has.f 0 a5 a8).bind fun b6 => (if b6 = true then ((spec_span_has.f 0 30 b0).bind fun b7 => (spec_Config.j0 k (!b7))) else (spec_Config.j0 k (!b6)))) else (spec_Config.j0 k (!b5)))) else (spec_Config.j0 k (!b4)))) else (spec_Config.j0 k (!b1)))) else (some 1))) = some r := h; clear h; replace H := Option.bind_eq_some_iff.mp H; obtain ⟨c6, c9, H⟩ := H
  (try dsimp only at H)
  have A2 := Aside0.mk c9; clear c9; by_cases c3 : c6 = true
  · subst c3; rw [if_pos rfl] at H; replace H := Option.bind_eq_some_iff.mp H; obtain ⟨b1, d0, H⟩ := H
    (try dsimp only at H)
    have A4 := Aside0.mk d0; clear d0; have c7 := Aside0.mk H; clear H; go_enter Tryd.func39, Tryd.ntmps39; go_upto_if 8 with (first | ((with_reducible refine gate_dst (N := 1) rfl ?_); refine box_event ?hg (N := 1) ?hd (cs := #[.string a7, .int .i64 a9, .int .i64 a6, .int .i64 a8, .int .i64 a5, .int .i64 b0]) (t := 23) ?hr ?_; (case hd => rfl); (case hg => rfl); (case hr => first | (go_simp; done) | (go_simp; rfl)); intro a4 hg w6 hbox hb; have a1 := Aside0.mk (below_step (bw0 HB) hb); have a2 := Aside0.mk (hbox); have b2 := Aside0.mk ((by rw [hg]; exact (below_size (bw0 HB)) : w.heap.size ≤ a4)); have b3 := Aside0.mk ((by rw [hg]; exact (below_size (bw0 HB)) : w.heap.size ≤ a4)); clear HB; have HB := a1; have a0 := a2; have d6 := b2; have a3 := b3; clear a1 a2 b2 b3; clear hb hbox hg; obtain ⟨d7, d8, d9, e0, e1, e2⟩ := cz6 a0; obtain ⟨e3, e4, e5, e6, e7, e8⟩ := fz6 a0) | ((with_reducible refine gate_callee (f := 70) rfl ?_); refine goesL_ (some 6) rfl rfl Tryd.func70 (by kernel_rfl) rfl #[.string a7] rfl au1 ?_; (with_reducible refine (label_Name.calls a7 true _ A2.out).mono ?_); rintro e w8 ⟨rfl, hb⟩; refine ⟨_, rfl, ?_⟩; have a1 := Aside0.mk (blk_below (g := a4) (pk a0) hb); have a2 := Aside0.mk (below_step (bw1 HB a3) hb); clear a0; clear HB; have a0 := a1; have HB := a2; clear a1 a2; (try clear hb); (try clear hb2); (try clear hk); (try clear hi); obtain ⟨e9, f0, f1, f2, f3, f4⟩ := cz6 a0; obtain ⟨f5, f6, f7, f8, f9, g0⟩ := fz6 a0) | ((with_reducible refine gate_callee (f := 72) rfl ?_); refine goesL_ (some 12) rfl rfl Tryd.func72 (by kernel_rfl) rfl #[.agg #[.int .i64 0, .int .i64 255], .int .i64 a9] rfl au1 ?_; (with_reducible refine (spec_span_has.calls 0 255 a9 b1 _ A4.out).mono ?_); rintro e w10 ⟨rfl, hb⟩; refine ⟨_, rfl, ?_⟩; have a1 := Aside0.mk (blk_below (g := a4) (pk a0) hb); have a2 := Aside0.mk (below_step (bw1 HB a3) hb); clear a0; clear HB; have a0 := a1; have HB := a2; clear a1 a2; (try clear hb); (try clear hb2); (try clear hk); (try clear hi)))
    (try simp only [Act.put, List.setIfInBounds_toArray, List.set_cons_zero, List.set_cons_succ])
    go_cut [8] (fun v8 wc => ∃ (kq : Nat) (b8 : Bool), v8 = .bool b8 ∧ Aside0 (spec_Config.j0 kq b8 = some r) ∧ Aside0 (kq ≤ k) ∧ Aside0 (wc.heap[a4]? = some (.cells #[.string a7, .int .i64 a9, .int .i64 a6, .int .i64 a8, .int .i64 a5, .int .i64 b0] 23 (0, 0))) ∧ Aside0 (Below w.heap.size w wc))
    case first =>
      have H := c7.out; clear c7; by_cases b9 : b1 = true
      · subst b9; rw [if_pos rfl] at H; replace H := Option.bind_eq_some_iff.mp H; obtain ⟨b4, d1, H⟩ := H
        (try dsimp only at H)
        have c0 := Aside0.mk d1; clear d1; by_cases c1 : b4 = true
        · subst c1; rw [if_pos rfl] at H; replace H := Option.bind_eq_some_iff.mp H; obtain ⟨b5, d2, H⟩ := H
          (try dsimp only at H)
          have c8 := Aside0.mk d2; clear d2; by_cases c2 : b5 = true
          · subst c2; rw [if_pos rfl] at H; replace H := Option.bind_eq_some_iff.mp H; obtain ⟨b6, d3, H⟩ := H
            (try dsimp only at H)
            have d4 := Aside0.mk d3; clear d3; by_cases c4 : b6 = true
            · subst c4; rw [if_pos rfl] at H; replace H := Option.bind_eq_some_iff.mp H; obtain ⟨b7, d5, H⟩ := H
              (try dsimp only at H)
              have g1 := Aside0.mk d5; clear d5; have H' := Aside0.mk H; clear H; obtain ⟨g3, g4, g5, g6, g7, g8⟩ := cz6 a0; obtain ⟨g9, h0, h1, h2, h3, h4⟩ := fz6 a0; go_wp2_with (first | ((with_reducible refine gate_callee (f := 72) rfl ?_); refine goesL_ (some 17) rfl rfl Tryd.func72 (by kernel_rfl) rfl #[.agg #[.int .i64 1, .int .i64 8], .int .i64 a6] rfl au1 ?_; (with_reducible refine (spec_span_has.calls 1 8 a6 true _ c0.out).mono ?_); rintro e w20 ⟨rfl, hb⟩; refine ⟨_, rfl, ?_⟩; have a1 := Aside0.mk (blk_below (g := a4) (pk a0) hb); have a2 := Aside0.mk (below_step (bw1 HB a3) hb); clear a0; clear HB; have a0 := a1; have HB := a2; clear a1 a2; (try clear hb); (try clear hb2); (try clear hk); (try clear hi); obtain ⟨h5, h6, h7, h8, h9, i0⟩ := cz6 a0; obtain ⟨i1, i2, i3, i4, i5, i6⟩ := fz6 a0) | ((with_reducible refine gate_callee (f := 72) rfl ?_); refine goesL_ (some 22) rfl rfl Tryd.func72 (by kernel_rfl) rfl #[.agg #[.int .i64 1, .int .i64 10], .int .i64 a5] rfl au1 ?_; (with_reducible refine (spec_span_has.calls 1 10 a5 true _ c8.out).mono ?_); rintro e w22 ⟨rfl, hb⟩; refine ⟨_, rfl, ?_⟩; have a1 := Aside0.mk (blk_below (g := a4) (pk a0) hb); have a2 := Aside0.mk (below_step (bw1 HB a3) hb); clear a0; clear HB; have a0 := a1; have HB := a2; clear a1 a2; (try clear hb); (try clear hb2); (try clear hk); (try clear hi); obtain ⟨i7, i8, i9, j1, j2, j3⟩ := cz6 a0; obtain ⟨j4, j5, j6, j7, j8, j9⟩ := fz6 a0) | ((with_reducible refine gate_callee (f := 72) rfl ?_); refine goesL_ (some 29) rfl rfl Tryd.func72 (by kernel_rfl) rfl #[.agg #[.int .i64 0, .int .i64 a5], .int .i64 a8] rfl au1 ?_; (with_reducible refine (spec_span_has.calls 0 a5 a8 true _ d4.out).mono ?_); rintro e w24 ⟨rfl, hb⟩; refine ⟨_, rfl, ?_⟩; have a1 := Aside0.mk (blk_below (g := a4) (pk a0) hb); have a2 := Aside0.mk (below_step (bw1 HB a3) hb); clear a0; clear HB; have a0 := a1; have HB := a2; clear a1 a2; (try clear hb); (try clear hb2); (try clear hk); (try clear hi); obtain ⟨k0, k1, k2, k3, k4, k5⟩ := cz6 a0; obtain ⟨k6, k7, k8, k9, l0, l1⟩ := fz6 a0) | ((with_reducible refine gate_callee (f := 72) rfl ?_); refine goesL_ (some 34) rfl rfl Tryd.func72 (by kernel_rfl) rfl #[.agg #[.int .i64 0, .int .i64 30], .int .i64 b0] rfl au1 ?_; (with_reducible refine (spec_span_has.calls 0 30 b0 b7 _ g1.out).mono ?_); rintro e w26 ⟨rfl, hb⟩; refine ⟨_, rfl, ?_⟩; have a1 := Aside0.mk (blk_below (g := a4) (pk a0) hb); have a2 := Aside0.mk (below_step (bw1 HB a3) hb); clear a0; clear HB; have a0 := a1; have HB := a2; clear a1 a2; (try clear hb); (try clear hb2); (try clear hk); (try clear hi))); go_meet
              case rel => exact ⟨_, (!b7), au4, H', ⟨au5⟩, ⟨pq a0⟩, ⟨bw1 HB a3⟩⟩
            · replace c4 := Bool.eq_false_iff.mpr c4; subst c4; rw [if_neg (show ¬ (false = true) by decide)] at H; have H' := Aside0.mk H; clear H; obtain ⟨l2, l3, l4, l5, l6, l7⟩ := cz6 a0; obtain ⟨l8, l9, m0, m1, m2, m3⟩ := fz6 a0; go_wp2_with (first | ((with_reducible refine gate_callee (f := 72) rfl ?_); refine goesL_ (some 17) rfl rfl Tryd.func72 (by kernel_rfl) rfl #[.agg #[.int .i64 1, .int .i64 8], .int .i64 a6] rfl au1 ?_; (with_reducible refine (spec_span_has.calls 1 8 a6 true _ c0.out).mono ?_); rintro e w28 ⟨rfl, hb⟩; refine ⟨_, rfl, ?_⟩; have a1 := Aside0.mk (blk_below (g := a4) (pk a0) hb); have a2 := Aside0.mk (below_step (bw1 HB a3) hb); clear a0; clear HB; have a0 := a1; have HB := a2; clear a1 a2; (try clear hb); (try clear hb2); (try clear hk); (try clear hi); obtain ⟨m4, m5, m6, m7, m8, m9⟩ := cz6 a0; obtain ⟨n0, n1, n2, n3, n4, n5⟩ := fz6 a0) | ((with_reducible refine gate_callee (f := 72) rfl ?_); refine goesL_ (some 22) rfl rfl Tryd.func72 (by kernel_rfl) rfl #[.agg #[.int .i64 1, .int .i64 10], .int .i64 a5] rfl au1 ?_; (with_reducible refine (spec_span_has.calls 1 10 a5 true _ c8.out).mono ?_); rintro e w30 ⟨rfl, hb⟩; refine ⟨_, rfl, ?_⟩; have a1 := Aside0.mk (blk_below (g := a4) (pk a0) hb); have a2 := Aside0.mk (below_step (bw1 HB a3) hb); clear a0; clear HB; have a0 := a1; have HB := a2; clear a1 a2; (try clear hb); (try clear hb2); (try clear hk); (try clear hi); obtain ⟨n6, n7, n8, n9, o0, o1⟩ := cz6 a0; obtain ⟨o2, o3, o4, o5, o6, o7⟩ := fz6 a0) | ((with_reducible refine gate_callee (f := 72) rfl ?_); refine goesL_ (some 29) rfl rfl Tryd.func72 (by kernel_rfl) rfl #[.agg #[.int .i64 0, .int .i64 a5], .int .i64 a8] rfl au1 ?_; (with_reducible refine (spec_span_has.calls 0 a5 a8 false _ d4.out).mono ?_); rintro e w32 ⟨rfl, hb⟩; refine ⟨_, rfl, ?_⟩; have a1 := Aside0.mk (blk_below (g := a4) (pk a0) hb); have a2 := Aside0.mk (below_step (bw1 HB a3) hb); clear a0; clear HB; have a0 := a1; have HB := a2; clear a1 a2; (try clear hb); (try clear hb2); (try clear hk); (try clear hi))); go_meet
              case rel => exact ⟨_, (!false), au4, H', ⟨au5⟩, ⟨pq a0⟩, ⟨bw1 HB a3⟩⟩
          · replace c2 := Bool.eq_false_iff.mpr c2; subst c2; rw [if_neg (show ¬ (false = true) by decide)] at H; have H' := Aside0.mk H; clear H; obtain ⟨o8, o9, p0, p1, p2, p3⟩ := cz6 a0; obtain ⟨p4, p5, p6, p7, p8, p9⟩ := fz6 a0; go_wp2_with (first | ((with_reducible refine gate_callee (f := 72) rfl ?_); refine goesL_ (some 17) rfl rfl Tryd.func72 (by kernel_rfl) rfl #[.agg #[.int .i64 1, .int .i64 8], .int .i64 a6] rfl au1 ?_; (with_reducible refine (spec_span_has.calls 1 8 a6 true _ c0.out).mono ?_); rintro e w34 ⟨rfl, hb⟩; refine ⟨_, rfl, ?_⟩; have a1 := Aside0.mk (blk_below (g := a4) (pk a0) hb); have a2 := Aside0.mk (below_step (bw1 HB a3) hb); clear a0; clear HB; have a0 := a1; have HB := a2; clear a1 a2; (try clear hb); (try clear hb2); (try clear hk); (try clear hi); obtain ⟨q0, q1, q2, q3, q4, q5⟩ := cz6 a0; obtain ⟨q6, q7, q8, q9, r0, r1⟩ := fz6 a0) | ((with_reducible refine gate_callee (f := 72) rfl ?_); refine goesL_ (some 22) rfl rfl Tryd.func72 (by kernel_rfl) rfl #[.agg #[.int .i64 1, .int .i64 10], .int .i64 a5] rfl au1 ?_; (with_reducible refine (spec_span_has.calls 1 10 a5 false _ c8.out).mono ?_); rintro e w36 ⟨rfl, hb⟩; refine ⟨_, rfl, ?_⟩; have a1 := Aside0.mk (blk_below (g := a4) (pk a0) hb); have a2 := Aside0.mk (below_step (bw1 HB a3) hb); clear a0; clear HB; have a0 := a1; have HB := a2; clear a1 a2; (try clear hb); (try clear hb2); (try clear hk); (try clear hi))); go_meet
            case rel => exact ⟨_, (!false), au4, H', ⟨au5⟩, ⟨pq a0⟩, ⟨bw1 HB a3⟩⟩
        · replace c1 := Bool.eq_false_iff.mpr c1; subst c1; rw [if_neg (show ¬ (false = true) by decide)] at H; have H' := Aside0.mk H; clear H; obtain ⟨r2, r3, r4, r5, r6, r7⟩ := cz6 a0; obtain ⟨r8, r9, s0, s1, s2, s3⟩ := fz6 a0; go_wp2_with (first | ((with_reducible refine gate_callee (f := 72) rfl ?_); refine goesL_ (some 17) rfl rfl Tryd.func72 (by kernel_rfl) rfl #[.agg #[.int .i64 1, .int .i64 8], .int .i64 a6] rfl au1 ?_; (with_reducible refine (spec_span_has.calls 1 8 a6 false _ c0.out).mono ?_); rintro e w38 ⟨rfl, hb⟩; refine ⟨_, rfl, ?_⟩; have a1 := Aside0.mk (blk_below (g := a4) (pk a0) hb); have a2 := Aside0.mk (below_step (bw1 HB a3) hb); clear a0; clear HB; have a0 := a1; have HB := a2; clear a1 a2; (try clear hb); (try clear hb2); (try clear hk); (try clear hi))); go_meet
          case rel => exact ⟨_, (!false), au4, H', ⟨au5⟩, ⟨pq a0⟩, ⟨bw1 HB a3⟩⟩
      · replace b9 := Bool.eq_false_iff.mpr b9; subst b9; rw [if_neg (show ¬ (false = true) by decide)] at H; have H' := Aside0.mk H; clear H; go_wp2; go_meet
        case rel => exact ⟨_, (!false), au4, H', ⟨au5⟩, ⟨pq a0⟩, ⟨bw1 HB a3⟩⟩
    case rest =>
      clear c7; (try clear d7 d8 d9 e0 e1 e2 e9 f0 f1 f2 f3 f4 e3 e4 e5 e6 e7 e8 f5 f6 f7 f8 f9 g0); obtain ⟨kq, b8, rfl, HA, HJ4, a0, HB⟩ := hcut
      cases kq with
      | zero => exact absurd HA.out (by simp [spec_Config.j0])
      | succ kj4 =>
        have H := HA.out; clear HA; simp only [spec_Config.j0] at H; by_cases c5 : b8 = true
        · subst c5; rw [if_pos rfl] at H; obtain rfl := Option.some.inj H; go_wp2; go_ret; exact ⟨au3, bw1 HB a3⟩
        · replace c5 := Bool.eq_false_iff.mpr c5; subst c5; rw [if_neg (show ¬ (false = true) by decide)] at H; obtain rfl := Option.some.inj H; go_wp2; go_ret; exact ⟨au3, bw1 HB a3⟩
  · replace c3 := Bool.eq_false_iff.mpr c3; subst c3; rw [if_neg (show ¬ (false = true) by decide)] at H; obtain rfl := Option.some.inj H; go_enter Tryd.func39, Tryd.ntmps39; go_wp2_with (first | ((with_reducible refine gate_dst (N := 1) rfl ?_); refine box_event ?hg (N := 1) ?hd (cs := #[.string a7, .int .i64 a9, .int .i64 a6, .int .i64 a8, .int .i64 a5, .int .i64 b0]) (t := 23) ?hr ?_; (case hd => rfl); (case hg => rfl); (case hr => first | (go_simp; done) | (go_simp; rfl)); intro a4 hg w40 hbox hb; have a1 := Aside0.mk (below_step (bw0 HB) hb); have a2 := Aside0.mk (hbox); have b2 := Aside0.mk ((by rw [hg]; exact (below_size (bw0 HB)) : w.heap.size ≤ a4)); have b3 := Aside0.mk ((by rw [hg]; exact (below_size (bw0 HB)) : w.heap.size ≤ a4)); clear HB; have HB := a1; have a0 := a2; have d6 := b2; have a3 := b3; clear a1 a2 b2 b3; clear hb hbox hg; obtain ⟨s4, s5, s6, s7, s8, s9⟩ := cz6 a0; obtain ⟨t0, t1, t2, t3, t4, t5⟩ := fz6 a0) | ((with_reducible refine gate_callee (f := 70) rfl ?_); refine goesL_ (some 6) rfl rfl Tryd.func70 (by kernel_rfl) rfl #[.string a7] rfl au1 ?_; (with_reducible refine (label_Name.calls a7 false _ A2.out).mono ?_); rintro e w42 ⟨rfl, hb⟩; refine ⟨_, rfl, ?_⟩; have a1 := Aside0.mk (blk_below (g := a4) (pk a0) hb); have a2 := Aside0.mk (below_step (bw1 HB a3) hb); clear a0; clear HB; have a0 := a1; have HB := a2; clear a1 a2; (try clear hb); (try clear hb2); (try clear hk); (try clear hi))); go_ret; exact ⟨au3, bw1 HB a3⟩
end

section
/-! ### spec_target: function 73 -/
/-- What is wrong with a target, where it is known whether its name parts and its tag is one. -/
def tgt (s t : ByteArray) (p : Int) (is g : Bool) : Int := if s.toList ≠ [] ∧ is = false then 1 else if t.toList ≠ [] ∧ g = false then 1 else if 0 ≤ p ∧ p ≤ 100 then 0 else 2
def spec_target.f (a0 : ByteArray) (a1 : ByteArray) (a2 : Int) : Option Int :=
  (label_Split.f a0).bind fun t => (label_Tag.f a1).bind fun g => some (tgt a0 a1 a2 t.2.2 g)
theorem str_em (s : ByteArray) : ((s.toList != ([] : List UInt8)) = false ∧ s.toList.isEmpty = true ∧ (s.toList == ([] : List UInt8)) = true ∧ Aside0 (s.toList = [])) ∨ ((s.toList != ([] : List UInt8)) = true ∧ s.toList.isEmpty = false ∧ (s.toList == ([] : List UInt8)) = false ∧ Aside0 (¬ s.toList = [])) := by
  cases hs : s.toList with
  | nil => exact .inl ⟨rfl, rfl, rfl, ⟨rfl⟩⟩
  | cons a l => exact .inr ⟨rfl, rfl, rfl, ⟨by simp⟩⟩
theorem blk_keep {W w1 : World} (hb : Below W.heap.size W w1) {g : Nat} {t : TypeId} {cs : Array Value} (h : W.heap[g]? = some (.cells cs t (0, 0))) : w1.heap[g]? = some (.cells cs t (0, 0)) := blk_below h hb
set_option maxHeartbeats 8000000 in
set_option maxRecDepth 100000 in
theorem spec_target.calls (a1 : ByteArray) (a2 : ByteArray) (a0 : Int) (r : Int) (w : World) (hLd_ : Aside0 (LaidW w)) (h : spec_target.f a1 a2 a0 = some r) :
    Calls Tryd.prog 73 #[.agg #[.string a1, .string a2, .int .i64 a0]] w fun e w' => e = .returned (.int .i64 r) ∧ Below w.heap.size w w' := by
  unfold spec_target.f at h; obtain ⟨⟨r1, r2, is⟩, hS, h⟩ := Option.bind_eq_some_iff.mp h; obtain ⟨g, hG, h⟩ := Option.bind_eq_some_iff.mp h; have hr := Option.some.inj h; clear h; have hsp := fun (W : World) (hl : Aside0 (LaidW W)) => label_Split.calls a1 r1 r2 is W hl hS; have htg := fun (W : World) => label_Tag.calls a2 g W hG; have HSp := Lib.hid hsp; clear hsp; have HTg := Lib.hid htg; clear htg; clear hS hG; have HR := Lib.hid hr; clear hr; have a7 : Aside0 (LaidW (w.alloc (.cells #[.string a1, .string a2, .int .i64 a0] 39))) := ⟨hLd_.out.below ((Below.refl _ _).alloc (Nat.le_refl _) _)⟩; have a8 : (w.alloc (.cells #[.string a1, .string a2, .int .i64 a0] 39)).heap[w.heap.size]? = some (.cells #[.string a1, .string a2, .int .i64 a0] 39 (0, 0)) := blk_new _ _; have a9 := Lib.hid a8; clear a8; have b0 : Below w.heap.size w (w.alloc (.cells #[.string a1, .string a2, .int .i64 a0] 39)) := (Below.refl _ _).alloc (Nat.le_refl _) _; go_enter Tryd.func73, Tryd.ntmps73; go_wp2_with fail; refine (HSp.out _ a7).mono ?_; rintro e w1 ⟨rfl, a4⟩; have a3 := blk_keep a4 a9.out; have b1 := below_step b0 a4; clear a4 a9 b0 a7; have c0 : w1.cell? ⟨w.heap.size, 0, none⟩ = some (.string a1) := (blk_cell a3 0).trans rfl; have c1 : w1.cell? ⟨w.heap.size, 1, none⟩ = some (.string a2) := (blk_cell a3 1).trans rfl; have c2 : w1.cell? ⟨w.heap.size, 2, none⟩ = some (.int .i64 a0) := (blk_cell a3 2).trans rfl; have b5 := Lib.hid a3; clear a3; have a5 := Aside0.mk b1; clear b1
  obtain ⟨pb, hpb, b2⟩ : ∃ pb : Bool, spec_span_has.f 0 100 a0 = some pb ∧ (pb = true ↔ 0 ≤ a0 ∧ a0 ≤ 100) := by
    unfold spec_span_has.f; by_cases h0 : a0 ≥ 0
    · rw [if_pos h0]; exact ⟨_, rfl, by simp; omega⟩
    · rw [if_neg h0]; exact ⟨_, rfl, by simp; omega⟩
  have hhas := fun (W : World) => spec_span_has.calls 0 100 a0 pb W hpb; have HHas := Lib.hid hhas; clear hhas hpb; have HPb := Lib.hid b2; clear b2; rcases str_em a1 with ⟨s1, s2, s3, HS⟩ | ⟨s1, s2, s3, HS⟩
  all_goals cases is
  all_goals rcases str_em a2 with ⟨t1, t2, t3, HT⟩ | ⟨t1, t2, t3, HT⟩
  all_goals cases g
  all_goals cases pb
  all_goals
    go_wp2_with (first | (go_at_call 37; refine (HTg.out _).mono ?_; rintro e w2 ⟨rfl, a6⟩; have b3 := Aside0.mk (below_step a5.out a6); have d2 : w2.cell? ⟨w.heap.size, 2, none⟩ = some (.int .i64 a0) := (blk_cell (blk_keep a6 b5.out) 2).trans rfl; clear a6) | (go_at_call 72; refine (HHas.out _).mono ?_; rintro e w3 ⟨rfl, b4⟩))
    (first | go_ret | (go_outline; go_ways; fail))
    have h1 := HR.out; have h2 := HPb.out; have h3 := HS.out; have h4 := HT.out; refine ⟨?_, ?_⟩
    · rw [← h1]; unfold tgt; simp [h3, h4] at h2 ⊢ <;> omega
    · first | exact below_step b3.out b4 | exact b3.out | exact below_step a5.out b4 | exact a5.out

-- NOT PRINTED: function 92 (api_Target_92)

-- NOT PRINTED: function 85 (api_Target_85)
end

section
/-! ### spec_all: function 74 -/
/-- The first of the list from number k on whose tag is t; -1: none. -/
def idxT : List S39 → ByteArray → Int → Int
  | [], _, _ => -1
  | x :: xs, t, k => if (x.f1.toList == t.toList) = true then k else idxT xs t (k + 1)
theorem idxT_step (l : List S39) (t : ByteArray) (x : Int) (h0 : 0 ≤ x) (h1 : x < (l.length : Int)) : idxT (l.drop x.toNat) t x = if ((rd_T39 l x).f1.toList == t.toList) = true then x else idxT (l.drop (x + 1).toNat) t (x + 1) := by
  (have hn : x.toNat < l.length := by omega); rw [show (x + 1).toNat = x.toNat + 1 by omega, List.drop_eq_getElem_cons hn, idxT]; unfold rd_T39; rw [List.getD_eq_getElem?_getD, List.getElem?_eq_getElem hn, Option.getD_some]
theorem idxT_end (l : List S39) (t : ByteArray) (x : Int) (h1 : ¬ x < (l.length : Int)) (h0 : 0 ≤ x) : idxT (l.drop x.toNat) t x = -1 := by
  rw [List.drop_eq_nil_of_le (by omega), idxT]
theorem idxT_ge : ∀ (l : List S39) (t : ByteArray) (x : Int), 0 ≤ x → (0 ≤ idxT l t x ↔ l.any (fun y => y.f1.toList == t.toList) = true)
  | [], t, x, h => by simp [idxT]
  | y :: ys, t, x, h => by
    by_cases e : (y.f1.toList == t.toList) = true
    · rw [idxT, if_pos e, List.any_cons, e]; simp [h]
    · rw [idxT, if_neg e, List.any_cons, idxT_ge ys t (x + 1) (by omega)]; simp only [Bool.not_eq_true] at e; rw [e, Bool.false_or]
set_option maxHeartbeats 8000000 in
set_option maxRecDepth 100000 in
theorem tagged_walk (x0 x1 : ByteArray) (x2 : Int) (b : Nat) (t0 t1 : ByteArray) (t2 : Int) (w : World) (hK : w.heap[b]? = some (.cells #[.string t0, .string t1, .int .i64 t2] 39 (0, 0))) :
    Calls Tryd.prog 86 #[.agg #[.string x0, .string x1, .int .i64 x2], .pointer (some ⟨b, 0, none⟩)] w fun e w' => e = .returned (.bool (x1.toList == t1.toList)) ∧ Below w.heap.size w w' := by
  have c1 : (w.alloc (.cells #[.string x0, .string x1, .int .i64 x2] 39)).cell? ⟨b, 1, none⟩ = some (.string t1) := (blk_cell (blk_alloc hK _) 1).trans rfl; clear hK; go_enter Tryd.func86, Tryd.ntmps86; go_wp2; go_ret; exact ⟨rfl, (Below.refl _ _).alloc (Nat.le_refl _) _⟩
set_option maxHeartbeats 8000000 in
set_option maxRecDepth 100000 in
theorem idx_walk (A : Option Addr) (c : Nat) (l : List S39) (b : Nat) (t0 t1 : ByteArray) (t2 : Int) (w : World) (hr : Kd.C k39 w A l.length l) (hK : w.heap[b]? = some (.cells #[.string t0, .string t1, .int .i64 t2] 39 (0, 0))) :
    Calls Tryd.prog 92 #[.slice A l.length c, .func (.func 86) #[] #[.pointer (some ⟨b, 0, none⟩)]] w fun e w' => e = .returned (.int .i64 (idxT l t1 0)) ∧ Below w.heap.size w w' := by
  (have hm : (l.length : Int) ≤ 9223372036854775807 := by have := Kd.C_max hr; omega); have HR := Aside0.mk hr; have HK := Aside0.mk hK; clear hr hK; obtain ⟨res, hres⟩ : ∃ r : Int, idxT l t1 0 = r := ⟨_, rfl⟩; have HE : Aside0 (idxT (l.drop (0 : Int).toNat) t1 0 = res) := ⟨by simpa using hres⟩; rw [hres]; clear hres; go_enter Tryd.func92, Tryd.ntmps92; go_wp2_with fail; go_loopw [8] (fun v8 w' => ∃ x : Int, 0 ≤ x ∧ x ≤ (l.length : Int) ∧ v8 = .int .i64 x ∧ Aside0 (idxT (l.drop x.toNat) t1 x = res) ∧ Aside0 (Below w.heap.size w w')) (fun v8 w' => l.length - (intOf v8).toNat)
  case atStart => exact ⟨0, by omega, by omega, rfl, HE, ⟨Below.refl _ _⟩⟩
  case round =>
    obtain ⟨x, a1, hx1, rfl, HI, HB⟩ := hrel; by_cases hlt : x < (l.length : Int)
    · have hst := idxT_step l t1 x a1 hlt; rw [HI.out] at hst; have hr' := Kd.C_below HR.out HB.out; obtain ⟨ad, e, c0, c1, c2⟩ := at_T39 hr' x a1 hlt; subst e; have hK' := Aside0.mk (blk_below HK.out HB.out); clear hr'; (have a3 : wrap64 (x + 1) = x + 1 := by unfold wrap64; omega); have hx3 := eq_true a1; have hx4 := eq_true hlt; have hdec : decide (x < (l.length : Int)) = true := decide_eq_true hlt; generalize hq : rd_T39 l x = y at c0 c1 c2 hst; clear hq; obtain ⟨y0, y1, y2⟩ := y; obtain ⟨q, hq⟩ : ∃ q : Bool, (y1.toList == t1.toList) = q := ⟨_, rfl⟩; have hcall := fun (W : World) hW => tagged_walk y0 y1 y2 b t0 t1 t2 W hW; rw [hq] at hcall; have HC := Lib.hid hcall; simp only [hq] at hst; clear hcall hq
      cases q with
      | true =>
        rw [if_pos rfl] at hst; have HST := Aside0.mk hst; clear hst; go_wp2_with (go_at_call 86; refine (HC.out _ hK'.out).mono ?_; rintro e w2 ⟨rfl, a0⟩; have a2 := Aside0.mk (below_step HB.out a0); clear a0); go_ret; exact ⟨by rw [HST.out]; rfl, a2.out⟩
      | false =>
        rw [if_neg (by decide)] at hst; have HST := Aside0.mk hst; clear hst; go_wp2_with (go_at_call 86; refine (HC.out _ hK'.out).mono ?_; rintro e w2 ⟨rfl, a0⟩; have a2 := Aside0.mk (below_step HB.out a0); clear a0); go_roundw
        case rel => exact ⟨x + 1, by omega, by omega, by first | rfl | rw [a3], ⟨HST.out.symm⟩, a2⟩
        case measure => simp [intOf]; omega
    · have hen := idxT_end l t1 x hlt a1; rw [HI.out] at hen; subst hen; have hdec : decide (x < (l.length : Int)) = false := decide_eq_false hlt; have a4 := eq_false hlt; go_wp2_with fail; go_ret; exact ⟨rfl, HB.out⟩
set_option maxHeartbeats 8000000 in
set_option maxRecDepth 100000 in
theorem within_walk (A : Option Addr) (c : Nat) (l : List S39) (b : Nat) (t0 t1 : ByteArray) (t2 : Int) (w : World) (hr : Kd.C k39 w A l.length l) (hK : w.heap[b]? = some (.cells #[.string t0, .string t1, .int .i64 t2] 39 (0, 0))) :
    Calls Tryd.prog 85 #[.slice A l.length c, .func (.func 86) #[] #[.pointer (some ⟨b, 0, none⟩)]] w fun e w' => e = .returned (.bool (l.any fun y => y.f1.toList == t1.toList)) ∧ Below w.heap.size w w' := by
  have hcall := idx_walk A c l b t0 t1 t2 w hr hK; have hge := idxT_ge l t1 0 (by omega); clear hr hK; generalize idxT l t1 0 = res at hcall hge; have HC := Lib.hid hcall; clear hcall
  have a0 : decide (0 ≤ res) = (l.any fun y => y.f1.toList == t1.toList) := by
    rw [Bool.eq_iff_iff, decide_eq_true_iff]; exact hge
  rw [← a0]; clear a0 hge; go_enter Tryd.func85, Tryd.ntmps85; go_wp2_with (go_at_call 92; refine HC.out.mono ?_; rintro e w2 ⟨rfl, a1⟩); go_ret; exact ⟨rfl, a1⟩
/-- The sum so far, and the targets that are left: what is wrong with them together. -/
def all_go : List S39 → List S39 → Int → Int
  | _, [], sum => if sum = 100 then 0 else 4
  | pre, t :: ts, sum => if t.f1.toList ≠ [] ∧ pre.any (fun y => y.f1.toList == t.f1.toList) = true then 5 else all_go (pre ++ [t]) ts (wrap64 (sum + t.f2))
def spec_all.f (l : List S39) : Option Int := some (all_go [] l 0)
theorem all_step (l : List S39) (s x : Int) (h0 : 0 ≤ x) (h1 : x < (l.length : Int)) : all_go (l.take x.toNat) (l.drop x.toNat) s = if (rd_T39 l x).f1.toList ≠ [] ∧ (l.take x.toNat).any (fun y => y.f1.toList == (rd_T39 l x).f1.toList) = true then 5 else all_go (l.take (x + 1).toNat) (l.drop (x + 1).toNat) (wrap64 (s + (rd_T39 l x).f2)) := by
  have hn : x.toNat < l.length := by omega
  have e : rd_T39 l x = l[x.toNat] := by
    unfold rd_T39; rw [List.getD_eq_getElem?_getD, List.getElem?_eq_getElem hn, Option.getD_some]
  rw [e, show (x + 1).toNat = x.toNat + 1 by omega, List.drop_eq_getElem_cons hn, List.take_succ_eq_append_getElem hn]
  conv => lhs; unfold all_go
theorem all_end (l : List S39) (s x : Int) (h1 : ¬ x < (l.length : Int)) (h0 : 0 ≤ x) : all_go (l.take x.toNat) (l.drop x.toNat) s = if s = 100 then 0 else 4 := by
  rw [List.drop_eq_nil_of_le (by omega), all_go]
theorem within_walk' (A : Option Addr) (c n : Nat) (l : List S39) (b : Nat) (t0 t1 : ByteArray) (t2 : Int) (w : World) (hn : l.length = n) (hr : Kd.C k39 w A l.length l) (hK : w.heap[b]? = some (.cells #[.string t0, .string t1, .int .i64 t2] 39 (0, 0))) :
    Calls Tryd.prog 85 #[.slice A n c, .func (.func 86) #[] #[.pointer (some ⟨b, 0, none⟩)]] w fun e w' => e = .returned (.bool (l.any fun y => y.f1.toList == t1.toList)) ∧ Below w.heap.size w w' := by
  subst hn; exact within_walk A c l b t0 t1 t2 w hr hK
set_option maxHeartbeats 8000000 in
set_option maxRecDepth 100000 in
theorem spec_all.calls (A0 : Option Addr) (c0 : Nat) (l0 : List (S39)) (r : Int) (w : World) (a3 : Kd.C k39 w A0 l0.length l0) (hc0 : l0.length ≤ c0) (h : spec_all.f l0 = some r) :
    Calls Tryd.prog 74 #[.slice A0 l0.length c0] w fun e w' => e = .returned (.int .i64 r) ∧ Below w.heap.size w w' := by
  (have hm : (l0.length : Int) ≤ 9223372036854775807 := by have := Kd.C_max a3; omega); have HR := Aside0.mk a3; clear a3; have hr := Option.some.inj h; clear h; have HE : Aside0 (all_go (l0.take (0 : Int).toNat) (l0.drop (0 : Int).toNat) 0 = r) := ⟨by simpa using hr⟩; clear hr; go_enter Tryd.func74, Tryd.ntmps74; go_wp2_with fail; go_loopw [3, 8] (fun v3 v8 w' => ∃ s x : Int, 0 ≤ x ∧ x ≤ (l0.length : Int) ∧ v3 = .int .i64 s ∧ v8 = .int .i64 x ∧ Aside0 (all_go (l0.take x.toNat) (l0.drop x.toNat) s = r) ∧ Aside0 (Below w.heap.size w w')) (fun v3 v8 w' => l0.length - (intOf v8).toNat)
  case atStart => exact ⟨0, 0, by omega, by omega, rfl, rfl, HE, ⟨Below.refl _ _⟩⟩
  case round =>
    obtain ⟨s, x, a2, hx1, rfl, rfl, HI, HB⟩ := hrel; by_cases hlt : x < (l0.length : Int)
    · have hst := all_step l0 s x a2 hlt; rw [HI.out] at hst; have hr' := Kd.C_below HR.out HB.out; obtain ⟨ad, e, q0, q1, q2⟩ := at_T39 hr' x a2 hlt; subst e; clear hr'; (have a5 : wrap64 (x + 1) = x + 1 := by unfold wrap64; omega); have hx3 := eq_true a2; have hx4 := eq_true hlt; have hx5 : (x ≤ (c0 : Int)) = True := eq_true (by omega); have hdec : decide (x < (l0.length : Int)) = true := decide_eq_true hlt; generalize hq : rd_T39 l0 x = y at q0 q1 q2 hst; clear hq; obtain ⟨y0, y1, y2⟩ := y; simp only at q0 q1 q2 hst; obtain ⟨q, hq⟩ : ∃ q : Bool, (l0.take x.toNat).any (fun y => y.f1.toList == y1.toList) = q := ⟨_, rfl⟩; have hcall := fun (W : World) (n b : Nat) hn hW hK => within_walk' (some ad) c0 n (l0.take x.toNat) b y0 y1 y2 W hn hW hK; rw [hq] at hcall hst; have HC := Lib.hid hcall; clear hcall hq; rcases str_em y1 with ⟨t1, t2, t3, HT⟩ | ⟨t1, t2, t3, HT⟩
      · rw [if_neg (fun hh => hh.1 HT.out)] at hst; have HST := Aside0.mk hst; clear hst; go_wp2_with fail; go_roundw
        case rel => exact ⟨_, x + 1, by omega, by omega, rfl, by first | rfl | rw [a5], ⟨HST.out.symm⟩, ⟨below_alloc HB.out _⟩⟩
        case measure => simp [intOf]; omega
      · cases q with
        | true =>
          rw [if_pos ⟨HT.out, rfl⟩] at hst; have HST := Aside0.mk hst; clear hst; go_wp2_with fail; refine (HC.out _ x.toNat _ (by rw [List.length_take]; omega) (Kd.C_alloc (Kd.C_take (Kd.C_below HR.out HB.out) (by omega)) _) (blk_new _ _)).mono ?_; rintro e w2 ⟨rfl, a0⟩; have a4 := Aside0.mk (below_step (below_alloc HB.out _) a0); clear a0; go_wp2_with fail; go_ret; exact ⟨by rw [HST.out]; rfl, a4.out⟩
        | false =>
          rw [if_neg (by simp)] at hst; have HST := Aside0.mk hst; clear hst; go_wp2_with fail; refine (HC.out _ x.toNat _ (by rw [List.length_take]; omega) (Kd.C_alloc (Kd.C_take (Kd.C_below HR.out HB.out) (by omega)) _) (blk_new _ _)).mono ?_; rintro e w2 ⟨rfl, a0⟩; have a4 := Aside0.mk (below_step (below_alloc HB.out _) a0); clear a0; go_wp2_with fail; go_roundw
          case rel => exact ⟨_, x + 1, by omega, by omega, rfl, by first | rfl | rw [a5], ⟨HST.out.symm⟩, a4⟩
          case measure => simp [intOf]; omega
    · have hen := all_end l0 s x hlt a2; rw [HI.out] at hen; have hdec : decide (x < (l0.length : Int)) = false := decide_eq_false hlt; have a6 := eq_false hlt; by_cases a1 : s = 100
      · subst a1; rw [if_pos rfl] at hen; have HST := Aside0.mk hen; clear hen; go_wp2_with fail; go_ret; exact ⟨by rw [HST.out]; rfl, HB.out⟩
      · rw [if_neg a1] at hen; have HST := Aside0.mk hen; clear hen; have h1 : (s == 100) = false := beq_eq_false_iff_ne.mpr a1; have h2 : (s != 100) = true := bne_iff_ne.mpr a1; clear a1; go_wp2_with fail; go_ret; exact ⟨by rw [HST.out]; rfl, HB.out⟩
end

end Go.Proofs.YtalpoojepffldaaDoor.Ma
