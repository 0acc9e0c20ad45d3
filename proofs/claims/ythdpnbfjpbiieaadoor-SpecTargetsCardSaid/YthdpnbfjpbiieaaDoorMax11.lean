-- Written by a program of this session (wip/tools/myprint.py), in the form of the kit's print. Not trusted: Lean checks it.
import Derived.Test.YthdpnbfjpbiieaaDoorMax0
import Derived.Test.YthdpnbfjpbiieaaDoorMax3
import Derived.Test.YthdpnbfjpbiieaaDoorMax10
namespace Go.Proofs.YthdpnbfjpbiieaaDoor.Ma
open Go.RowKit Go.Proofs.YthdpnbfjpbiieaaDoorW.PrintWords Go.Proofs.YthdpnbfjpbiieaaDoorW.PrintLast Go.Proofs.YthdpnbfjpbiieaaDoorW.PrintMore
attribute [local go_sem] max2_int min2_int max_two min_two max_three min_three max_four min_four   -- for this text's walks alone
set_option linter.unusedVariables false
set_option linter.unusedSimpArgs false

/-! ### label_Split: function 36 -/
/-- How label.Split parts a text: at the last '-'; behind it a number, of which Rev makes the same text. -/
def splitAt (s : ByteArray) (i : Nat) : Option (ByteArray × Int × Bool) :=
  match Lib.atoiAll (s.extract (i + 1) s.size).data.toList with
  | .ok v => (label_Rev.f 1 (s.extract 0 i) v).bind fun r => if r.toList = s.toList then some (s.extract 0 i, v, true) else some (⟨#[]⟩, 0, false)
  | _ => some (⟨#[]⟩, 0, false)
def label_Split.f (a0 : ByteArray) : Option (ByteArray × Int × Bool) :=
  if a0.size ≤ 140737488351232 then
    if Lib.lastIndexByte a0 45 < 0 then some (⟨#[]⟩, 0, false) else splitAt a0 (Lib.lastIndexByte a0 45).toNat
  else none
theorem last_bounds (s : ByteArray) (h : ¬ Lib.lastIndexByte s 45 < 0) : ∃ i : Nat, i < s.size ∧ Lib.lastIndexByte s 45 = (i : Int) := by
  rcases Lib.lastIdx_spec s 45 s.size with ⟨e, _⟩ | ⟨i, hi, e, _⟩
  · exact absurd (show Lib.lastIndexByte s 45 < 0 by unfold Lib.lastIndexByte; omega) h
  · exact ⟨i, hi, e⟩
theorem atoi_world {w w' : World} (h : w' = w ∨ ∃ t, w' = Lib.bytesWorld w 5 t) : Below w.heap.size w w' := by
  rcases h with rfl | ⟨t, rfl⟩
  · exact Below.refl _ _
  · exact Lib.bytesWorld_below _ _ _
set_option maxHeartbeats 8000000 in
set_option maxRecDepth 100000 in
theorem label_Split.calls (a0 : ByteArray) (r1 : ByteArray) (r2 : Int) (r3 : Bool) (w : World) (hLd_ : Aside0 (LaidW w)) (h : label_Split.f a0 = some (r1, r2, r3)) :
    Calls Tryd.prog 36 #[.string a0] w fun e w' => e = .returned (.tuple #[.string r1, .int .i64 r2, .bool r3]) ∧ Below w.heap.size w w' := by
  unfold label_Split.f at h
  by_cases hsz : a0.size ≤ 140737488351232
  case neg => rw [if_neg hsz] at h; cases h
  rw [if_pos hsz] at h
  have hLI := Tryd.strings_LastIndex_one a0 ⟨#[45]⟩ rfl (by omega) w
  have hLI : Calls Tryd.prog 43 #[.string a0, .string ⟨#[45]⟩] w fun e w' => e = .returned (.int .i64 (Lib.lastIndexByte a0 45)) ∧ w' = w := hLI
  by_cases hneg : Lib.lastIndexByte a0 45 < 0
  · rw [if_pos hneg] at h
    obtain ⟨rfl, rfl, rfl⟩ : (⟨#[]⟩ : ByteArray) = r1 ∧ (0 : Int) = r2 ∧ false = r3 := by injection h with h; injection h with h1 h2; injection h2 with h2 h3; exact ⟨h1, h2, h3⟩
    generalize Lib.lastIndexByte a0 45 = li at hLI hneg
    have hn1 : decide (li < 0) = true := decide_eq_true hneg
    go_enter Tryd.func36, Tryd.ntmps36
    go_wp2_with (go_at_call 43; refine hLI.mono ?_; rintro e w' ⟨rfl, rfl⟩)
    go_wp2
    go_ret3
    exact ⟨rfl, Below.refl _ _⟩
  · rw [if_neg hneg] at h
    obtain ⟨i, hi, e⟩ := last_bounds a0 hneg
    rw [e] at hLI h hneg
    clear hneg e
    rw [show ((i : Nat) : Int).toNat = i from rfl] at h
    unfold splitAt at h
    generalize hT : a0.extract (i + 1) a0.size = t at h
    have htsz : t.size ≤ 140737488351232 := by rw [← hT]; simp; omega
    have hA : (Tryd.prog.funcs.size = Tryd.prog.funcs.size) := rfl
    have hi1 : (IntKind.i64.wrap ((i : Int) + 1)) = ((i + 1 : Nat) : Int) := by
      rw [i64_w]; unfold wrap64; omega
    have hng : decide ((i : Int) < 0) = false := decide_eq_false (by omega)
    have g1 : decide ((i : Int) + 1 ≤ (a0.size : Int)) = true := decide_eq_true (by omega)
    have g2 : decide ((0 : Int) ≤ (i : Int) + 1) = true := decide_eq_true (by omega)
    rcases hE : Lib.atoiAll t.data.toList with v | _ | _
    · rw [hE] at h
      obtain ⟨rr, hR, h⟩ := Option.bind_eq_some_iff.mp h
      have hAt := Tryd.strconv_Atoi_ok t (by omega) v hE
      by_cases hq : rr.toList = a0.toList
      · rw [if_pos hq] at h
        obtain ⟨rfl, rfl, rfl⟩ : a0.extract 0 i = r1 ∧ v = r2 ∧ true = r3 := by injection h with h; injection h with h1 h2; injection h2 with h2 h3; exact ⟨h1, h2, h3⟩
        have hq1 : (rr.toList != a0.toList) = false := by rw [hq]; simp
        have hq2 : (rr.toList = a0.toList) = True := eq_true hq
        have hq3 : (rr.toList == a0.toList) = true := by rw [hq]; simp
        go_enter Tryd.func36, Tryd.ntmps36
        go_wp2_with (first | (go_at_call 43; refine hLI.mono ?_; rintro e w' ⟨rfl, rfl⟩) | (go_at_call 44; refine (hAt _).mono ?_; rintro e w1 ⟨rfl, hW⟩; have hb1 := atoi_world hW; clear hW) | (go_at_call 45; refine (label_Rev.calls 1 (a0.extract 0 i) v rr _ ⟨hLd_.out.below hb1⟩ hR).mono ?_; rintro e w2 ⟨rfl, hb2⟩))
        go_wp2
        go_ret3
        exact ⟨rfl, hb1.trans (hb2.mono hb1.size)⟩
      · rw [if_neg hq] at h
        obtain ⟨rfl, rfl, rfl⟩ : (⟨#[]⟩ : ByteArray) = r1 ∧ (0 : Int) = r2 ∧ false = r3 := by injection h with h; injection h with h1 h2; injection h2 with h2 h3; exact ⟨h1, h2, h3⟩
        have hq1 : (rr.toList != a0.toList) = true := by simpa using hq
        have hq2 : (rr.toList = a0.toList) = False := eq_false hq
        have hq3 : (rr.toList == a0.toList) = false := by simpa using hq
        go_enter Tryd.func36, Tryd.ntmps36
        go_wp2_with (first | (go_at_call 43; refine hLI.mono ?_; rintro e w' ⟨rfl, rfl⟩) | (go_at_call 44; refine (hAt _).mono ?_; rintro e w1 ⟨rfl, hW⟩; have hb1 := atoi_world hW; clear hW) | (go_at_call 45; refine (label_Rev.calls 1 (a0.extract 0 i) v rr _ ⟨hLd_.out.below hb1⟩ hR).mono ?_; rintro e w2 ⟨rfl, hb2⟩))
        go_wp2
        go_ret3
        exact ⟨rfl, hb1.trans (hb2.mono hb1.size)⟩
    · rw [hE] at h
      obtain ⟨rfl, rfl, rfl⟩ : (⟨#[]⟩ : ByteArray) = r1 ∧ (0 : Int) = r2 ∧ false = r3 := by injection h with h; injection h with h1 h2; injection h2 with h2 h3; exact ⟨h1, h2, h3⟩
      obtain ⟨_, ⟨tp, p, hvar⟩, _⟩ := hLd_.out
      have hAt := Any.strconv_Atoi_syntax_var Tryd.laysC172 t (by omega) hE tp p w hvar
      clear hvar
      go_enter Tryd.func36, Tryd.ntmps36
      go_wp2_with (first | (go_at_call 43; refine hLI.mono ?_; rintro e w' ⟨rfl, rfl⟩) | (go_at_call 44; refine hAt.mono ?_; rintro e w1 ⟨N, rfl, _, _, hb1⟩))
      go_wp2
      go_ret3
      exact ⟨rfl, hb1⟩
    · rw [hE] at h
      obtain ⟨rfl, rfl, rfl⟩ : (⟨#[]⟩ : ByteArray) = r1 ∧ (0 : Int) = r2 ∧ false = r3 := by injection h with h; injection h with h1 h2; injection h2 with h2 h3; exact ⟨h1, h2, h3⟩
      obtain ⟨_, _, ⟨tp, p, hvar⟩⟩ := hLd_.out
      have hAt := Any.strconv_Atoi_range_var Tryd.laysC172 t (by omega) hE tp p w hvar
      clear hvar
      go_enter Tryd.func36, Tryd.ntmps36
      go_wp2_with (first | (go_at_call 43; refine hLI.mono ?_; rintro e w' ⟨rfl, rfl⟩) | (go_at_call 44; refine hAt.mono ?_; rintro e w1 ⟨N, rfl, _, _, hb1⟩))
      go_wp2
      go_ret3
      exact ⟨rfl, hb1⟩

/-! ### label_Tag: function 37 -/
def label_Tag.f (a0 : ByteArray) : Option (Bool) := (label_short.f a0 8).bind fun t150 => (some t150)
set_option maxHeartbeats 8000000 in
set_option maxRecDepth 100000 in
theorem label_Tag.calls (a0 : ByteArray) (r : Bool) (w : World) (h : label_Tag.f a0 = some r) :
    Calls Tryd.prog 37 #[.string a0] w fun e w' => e = .returned (.bool r) ∧ Below w.heap.size w w' := by
  have HB := Aside0.mk (Below.refl w.heap.size w)
  have H : ((label_short.f a0 8).bind fun t150 => (some t150)) = some r := h
  clear h
  replace H := Option.bind_eq_some_iff.mp H
  obtain ⟨t150, A20, H⟩ := H
  replace H : (some t150) = some r := H
  have A2 := Aside0.mk A20
  clear A20
  obtain rfl := Option.some.inj H
  go_enter Tryd.func37, Tryd.ntmps37
  go_wp2_with (first | ((with_reducible refine gate_callee (f := 34) rfl ?_); refine goesL_ (some 4) rfl rfl Tryd.func34 (by kernel_rfl) rfl #[.string a0, .int .i64 8] rfl (by (try simp only [List.map_toArray, List.map_cons, List.map_nil]); first | done | rfl | (simp only [List.length_drop, List.length_take]; rfl)) ?_; (with_reducible refine (label_short.calls a0 8 t150 _ A2.out).mono ?_); rintro e w3 ⟨rfl, hb⟩; refine ⟨_, rfl, ?_⟩; have n0_ := Aside0.mk (below_step (by repeat (first | (with_reducible first | exact HB.out | apply below_alloc | apply pw_below_drewN | apply below_drew1) | exact HB.out)) hb); clear HB; have HB := n0_; clear n0_; (try clear hb); (try clear hb2); (try clear hk); (try clear hi)))
  go_ret
  exact ⟨by first | rfl | (simp [errW_none, errW_some] <;> rfl) | (simp [*, errW_none, errW_some] <;> rfl), by repeat (first | (with_reducible first | exact HB.out | apply below_alloc | apply pw_below_drewN | apply below_drew1) | exact HB.out)⟩

/-! ### spec_target: function 28 -/
/-- What is wrong with a target, where it is known whether its name parts and its tag is one. -/
def tgt (s t : ByteArray) (p : Int) (is g : Bool) : Int := if s.toList ≠ [] ∧ is = false then 1 else if t.toList ≠ [] ∧ g = false then 1 else if 0 ≤ p ∧ p ≤ 100 then 0 else 2
def spec_target.f (a0_0 : ByteArray) (a0_1 : ByteArray) (a0_2 : Int) : Option Int :=
  (label_Split.f a0_0).bind fun t => (label_Tag.f a0_1).bind fun g => some (tgt a0_0 a0_1 a0_2 t.2.2 g)
theorem str_em (s : ByteArray) : ((s.toList != ([] : List UInt8)) = false ∧ s.toList.isEmpty = true ∧ (s.toList == ([] : List UInt8)) = true ∧ Aside0 (s.toList = [])) ∨ ((s.toList != ([] : List UInt8)) = true ∧ s.toList.isEmpty = false ∧ (s.toList == ([] : List UInt8)) = false ∧ Aside0 (¬ s.toList = [])) := by
  cases hs : s.toList with
  | nil => exact .inl ⟨rfl, rfl, rfl, ⟨rfl⟩⟩
  | cons a l => exact .inr ⟨rfl, rfl, rfl, ⟨by simp⟩⟩
theorem blk_keep {W w1 : World} (hb : Below W.heap.size W w1) {g : Nat} {t : TypeId} {cs : Array Value} (h : W.heap[g]? = some (.cells cs t (0, 0))) : w1.heap[g]? = some (.cells cs t (0, 0)) := blk_below h hb
set_option maxHeartbeats 8000000 in
set_option maxRecDepth 100000 in
theorem spec_target.calls (a0_0 : ByteArray) (a0_1 : ByteArray) (a0_2 : Int) (r : Int) (w : World) (hLd_ : Aside0 (LaidW w)) (h : spec_target.f a0_0 a0_1 a0_2 = some r) :
    Calls Tryd.prog 28 #[.agg #[.string a0_0, .string a0_1, .int .i64 a0_2]] w fun e w' => e = .returned (.int .i64 r) ∧ Below w.heap.size w w' := by
  unfold spec_target.f at h
  obtain ⟨⟨r1, r2, is⟩, hS, h⟩ := Option.bind_eq_some_iff.mp h
  obtain ⟨g, hG, h⟩ := Option.bind_eq_some_iff.mp h
  have hr := Option.some.inj h; clear h
  have hsp := fun (W : World) (hl : Aside0 (LaidW W)) => label_Split.calls a0_0 r1 r2 is W hl hS
  have htg := fun (W : World) => label_Tag.calls a0_1 g W hG
  have HSp := Lib.hid hsp; clear hsp
  have HTg := Lib.hid htg; clear htg
  clear hS hG
  have HR := Lib.hid hr; clear hr
  have HL0 : Aside0 (LaidW (w.alloc (.cells #[.string a0_0, .string a0_1, .int .i64 a0_2] 41))) := ⟨hLd_.out.below ((Below.refl _ _).alloc (Nat.le_refl _) _)⟩
  have hK0 : (w.alloc (.cells #[.string a0_0, .string a0_1, .int .i64 a0_2] 41)).heap[w.heap.size]? = some (.cells #[.string a0_0, .string a0_1, .int .i64 a0_2] 41 (0, 0)) := blk_new _ _
  have HK0 := Lib.hid hK0; clear hK0
  have hB0 : Below w.heap.size w (w.alloc (.cells #[.string a0_0, .string a0_1, .int .i64 a0_2] 41)) := (Below.refl _ _).alloc (Nat.le_refl _) _
  go_enter Tryd.func28, Tryd.ntmps28
  go_wp2_with fail
  refine (HSp.out _ HL0).mono ?_
  rintro e w1 ⟨rfl, hb1⟩
  have hK1 := blk_keep hb1 HK0.out
  have hB1 := below_step hB0 hb1
  clear hb1 HK0 hB0 HL0
  have c0 : w1.cell? ⟨w.heap.size, 0, none⟩ = some (.string a0_0) := (blk_cell hK1 0).trans rfl
  have c1 : w1.cell? ⟨w.heap.size, 1, none⟩ = some (.string a0_1) := (blk_cell hK1 1).trans rfl
  have c2 : w1.cell? ⟨w.heap.size, 2, none⟩ = some (.int .i64 a0_2) := (blk_cell hK1 2).trans rfl
  have HK1 := Lib.hid hK1; clear hK1
  have HB1 := Aside0.mk hB1; clear hB1
  obtain ⟨pb, hpb, hpb2⟩ : ∃ pb : Bool, spec_span_has.f 0 100 a0_2 = some pb ∧ (pb = true ↔ 0 ≤ a0_2 ∧ a0_2 ≤ 100) := by
    unfold spec_span_has.f
    by_cases h0 : a0_2 ≥ 0
    · rw [if_pos h0]; exact ⟨_, rfl, by simp; omega⟩
    · rw [if_neg h0]; exact ⟨_, rfl, by simp; omega⟩
  have hhas := fun (W : World) => spec_span_has.calls 0 100 a0_2 pb W hpb
  have HHas := Lib.hid hhas; clear hhas hpb
  have HPb := Lib.hid hpb2; clear hpb2
  rcases str_em a0_0 with ⟨s1, s2, s3, HS⟩ | ⟨s1, s2, s3, HS⟩
  all_goals cases is
  all_goals rcases str_em a0_1 with ⟨t1, t2, t3, HT⟩ | ⟨t1, t2, t3, HT⟩
  all_goals cases g
  all_goals cases pb
  all_goals
    go_wp2_with (first | (go_at_call 37; refine (HTg.out _).mono ?_; rintro e w2 ⟨rfl, hb2⟩; have hB2 := Aside0.mk (below_step HB1.out hb2); have d2 : w2.cell? ⟨w.heap.size, 2, none⟩ = some (.int .i64 a0_2) := (blk_cell (blk_keep hb2 HK1.out) 2).trans rfl; clear hb2) | (go_at_call 25; refine (HHas.out _).mono ?_; rintro e w3 ⟨rfl, hb3⟩))
    (first | go_ret | (go_outline; go_ways; fail))
    have h1 := HR.out
    have h2 := HPb.out
    have h3 := HS.out
    have h4 := HT.out
    refine ⟨?_, ?_⟩
    · rw [← h1]; unfold tgt; simp [h3, h4] at h2 ⊢ <;> omega
    · first | exact below_step hB2.out hb3 | exact hB2.out | exact below_step HB1.out hb3 | exact HB1.out

-- NOT PRINTED: function 46 (api_Target_46)

-- NOT PRINTED: function 38 (api_Target_38)

end Go.Proofs.YthdpnbfjpbiieaaDoor.Ma
