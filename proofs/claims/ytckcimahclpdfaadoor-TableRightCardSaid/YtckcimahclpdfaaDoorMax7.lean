-- Written by a program of this session (wip/tools/myprint.py), in the form of the kit's print. Not trusted: Lean checks it.
import Derived.Test.YtckcimahclpdfaaDoorMax0
import Derived.Test.YtckcimahclpdfaaDoorMax6
namespace Go.Proofs.YtckcimahclpdfaaDoor.Ma
open Go.RowKit Go.Proofs.YtckcimahclpdfaaDoorW.PrintWords Go.Proofs.YtckcimahclpdfaaDoorW.PrintLast Go.Proofs.YtckcimahclpdfaaDoorW.PrintMore
attribute [local go_sem] max2_int min2_int max_two min_two max_three min_three max_four min_four   -- for this text's walks alone
set_option linter.unusedVariables false
set_option linter.unusedSimpArgs false

/-! ### label_Split: function 41 -/
/-- How label.Split parts a text: at the last '-'; behind it a number, of which Rev makes the same text. -/
def splitAt (s : ByteArray) (i : Nat) : Option (ByteArray × Int × Bool) :=
  match Lib.atoiAll (s.extract (i + 1) s.size).data.toList with
  | .ok v => (label_Rev.f 1 (s.extract 0 i) v).bind fun r => if r.toList = s.toList then some (s.extract 0 i, v, true) else some (⟨#[]⟩, 0, false)
  | _ => some (⟨#[]⟩, 0, false)
def label_Split.f (a0 : ByteArray) : Option (ByteArray × Int × Bool) :=
  if a0.size ≤ 140737488351232 then
    if Lib.lastIndexByte a0 45 < 0 then some (⟨#[]⟩, 0, false) else splitAt a0 (Lib.lastIndexByte a0 45).toNat
  else none
theorem last_bounds (s : ByteArray) (h : ¬ Lib.lastIndexByte s 45 < 0) : ∃ i : Nat, i < s.size ∧ Lib.lastIndexByte s 45 = (i : Int) := by
  rcases Lib.lastIdx_spec s 45 s.size with ⟨e, _⟩ | ⟨i, hi, e, _⟩
  · exact absurd (show Lib.lastIndexByte s 45 < 0 by unfold Lib.lastIndexByte; omega) h
  · exact ⟨i, hi, e⟩
theorem atoi_world {w w' : World} (h : w' = w ∨ ∃ t, w' = Lib.bytesWorld w 5 t) : Below w.heap.size w w' := by
  rcases h with rfl | ⟨t, rfl⟩
  · exact Below.refl _ _
  · exact Lib.bytesWorld_below _ _ _
set_option maxHeartbeats 8000000 in
set_option maxRecDepth 100000 in
theorem label_Split.calls (a0 : ByteArray) (r1 : ByteArray) (r2 : Int) (r3 : Bool) (w : World) (hLd_ : Aside0 (LaidW w)) (h : label_Split.f a0 = some (r1, r2, r3)) :
    Calls Tryd.prog 41 #[.string a0] w fun e w' => e = .returned (.tuple #[.string r1, .int .i64 r2, .bool r3]) ∧ Below w.heap.size w w' := by
  unfold label_Split.f at h
  by_cases hsz : a0.size ≤ 140737488351232
  case neg => rw [if_neg hsz] at h; cases h
  rw [if_pos hsz] at h
  have hLI := Tryd.strings_LastIndex_one a0 ⟨#[45]⟩ rfl (by omega) w
  have hLI : Calls Tryd.prog 51 #[.string a0, .string ⟨#[45]⟩] w fun e w' => e = .returned (.int .i64 (Lib.lastIndexByte a0 45)) ∧ w' = w := hLI
  by_cases hneg : Lib.lastIndexByte a0 45 < 0
  · rw [if_pos hneg] at h
    obtain ⟨rfl, rfl, rfl⟩ : (⟨#[]⟩ : ByteArray) = r1 ∧ (0 : Int) = r2 ∧ false = r3 := by injection h with h; injection h with h1 h2; injection h2 with h2 h3; exact ⟨h1, h2, h3⟩
    generalize Lib.lastIndexByte a0 45 = li at hLI hneg
    have hn1 : decide (li < 0) = true := decide_eq_true hneg
    go_enter Tryd.func41, Tryd.ntmps41
    go_wp2_with (go_at_call 51; refine hLI.mono ?_; rintro e w' ⟨rfl, rfl⟩)
    go_wp2
    go_ret3
    exact ⟨rfl, Below.refl _ _⟩
  · rw [if_neg hneg] at h
    obtain ⟨i, hi, e⟩ := last_bounds a0 hneg
    rw [e] at hLI h hneg
    clear hneg e
    rw [show ((i : Nat) : Int).toNat = i from rfl] at h
    unfold splitAt at h
    generalize hT : a0.extract (i + 1) a0.size = t at h
    have htsz : t.size ≤ 140737488351232 := by rw [← hT]; simp; omega
    have hA : (Tryd.prog.funcs.size = Tryd.prog.funcs.size) := rfl
    have hi1 : (IntKind.i64.wrap ((i : Int) + 1)) = ((i + 1 : Nat) : Int) := by
      rw [i64_w]; unfold wrap64; omega
    have hng : decide ((i : Int) < 0) = false := decide_eq_false (by omega)
    have g1 : decide ((i : Int) + 1 ≤ (a0.size : Int)) = true := decide_eq_true (by omega)
    have g2 : decide ((0 : Int) ≤ (i : Int) + 1) = true := decide_eq_true (by omega)
    rcases hE : Lib.atoiAll t.data.toList with v | _ | _
    · rw [hE] at h
      obtain ⟨rr, hR, h⟩ := Option.bind_eq_some_iff.mp h
      have hAt := Tryd.strconv_Atoi_ok t (by omega) v hE
      by_cases hq : rr.toList = a0.toList
      · rw [if_pos hq] at h
        obtain ⟨rfl, rfl, rfl⟩ : a0.extract 0 i = r1 ∧ v = r2 ∧ true = r3 := by injection h with h; injection h with h1 h2; injection h2 with h2 h3; exact ⟨h1, h2, h3⟩
        have hq1 : (rr.toList != a0.toList) = false := by rw [hq]; simp
        have hq2 : (rr.toList = a0.toList) = True := eq_true hq
        have hq3 : (rr.toList == a0.toList) = true := by rw [hq]; simp
        go_enter Tryd.func41, Tryd.ntmps41
        go_wp2_with (first | (go_at_call 51; refine hLI.mono ?_; rintro e w' ⟨rfl, rfl⟩) | (go_at_call 52; refine (hAt _).mono ?_; rintro e w1 ⟨rfl, hW⟩; have hb1 := atoi_world hW; clear hW) | (go_at_call 53; refine (label_Rev.calls 1 (a0.extract 0 i) v rr _ ⟨hLd_.out.below hb1⟩ hR).mono ?_; rintro e w2 ⟨rfl, hb2⟩))
        go_wp2
        go_ret3
        exact ⟨rfl, hb1.trans (hb2.mono hb1.size)⟩
      · rw [if_neg hq] at h
        obtain ⟨rfl, rfl, rfl⟩ : (⟨#[]⟩ : ByteArray) = r1 ∧ (0 : Int) = r2 ∧ false = r3 := by injection h with h; injection h with h1 h2; injection h2 with h2 h3; exact ⟨h1, h2, h3⟩
        have hq1 : (rr.toList != a0.toList) = true := by simpa using hq
        have hq2 : (rr.toList = a0.toList) = False := eq_false hq
        have hq3 : (rr.toList == a0.toList) = false := by simpa using hq
        go_enter Tryd.func41, Tryd.ntmps41
        go_wp2_with (first | (go_at_call 51; refine hLI.mono ?_; rintro e w' ⟨rfl, rfl⟩) | (go_at_call 52; refine (hAt _).mono ?_; rintro e w1 ⟨rfl, hW⟩; have hb1 := atoi_world hW; clear hW) | (go_at_call 53; refine (label_Rev.calls 1 (a0.extract 0 i) v rr _ ⟨hLd_.out.below hb1⟩ hR).mono ?_; rintro e w2 ⟨rfl, hb2⟩))
        go_wp2
        go_ret3
        exact ⟨rfl, hb1.trans (hb2.mono hb1.size)⟩
    · rw [hE] at h
      obtain ⟨rfl, rfl, rfl⟩ : (⟨#[]⟩ : ByteArray) = r1 ∧ (0 : Int) = r2 ∧ false = r3 := by injection h with h; injection h with h1 h2; injection h2 with h2 h3; exact ⟨h1, h2, h3⟩
      obtain ⟨_, ⟨tp, p, hvar⟩, _⟩ := hLd_.out
      have hAt := Any.strconv_Atoi_syntax_var Tryd.laysC172 t (by omega) hE tp p w hvar
      clear hvar
      go_enter Tryd.func41, Tryd.ntmps41
      go_wp2_with (first | (go_at_call 51; refine hLI.mono ?_; rintro e w' ⟨rfl, rfl⟩) | (go_at_call 52; refine hAt.mono ?_; rintro e w1 ⟨N, rfl, _, _, hb1⟩))
      go_wp2
      go_ret3
      exact ⟨rfl, hb1⟩
    · rw [hE] at h
      obtain ⟨rfl, rfl, rfl⟩ : (⟨#[]⟩ : ByteArray) = r1 ∧ (0 : Int) = r2 ∧ false = r3 := by injection h with h; injection h with h1 h2; injection h2 with h2 h3; exact ⟨h1, h2, h3⟩
      obtain ⟨_, _, ⟨tp, p, hvar⟩⟩ := hLd_.out
      have hAt := Any.strconv_Atoi_range_var Tryd.laysC172 t (by omega) hE tp p w hvar
      clear hvar
      go_enter Tryd.func41, Tryd.ntmps41
      go_wp2_with (first | (go_at_call 51; refine hLI.mono ?_; rintro e w' ⟨rfl, rfl⟩) | (go_at_call 52; refine hAt.mono ?_; rintro e w1 ⟨N, rfl, _, _, hb1⟩))
      go_wp2
      go_ret3
      exact ⟨rfl, hb1⟩

/-! ### table_named: function 26 -/
def table_named.f (a0 : ByteArray) : Option (Bool) := (label_Split.f a0).bind fun bt142 => (some bt142.2.2)
set_option maxHeartbeats 8000000 in
set_option maxRecDepth 100000 in
theorem table_named.calls (a0 : ByteArray) (r : Bool) (w : World) (hLd_ : Aside0 (LaidW w)) (h : table_named.f a0 = some r) :
    Calls Tryd.prog 26 #[.string a0] w fun e w' => e = .returned (.bool r) ∧ Below w.heap.size w w' := by
  have HB := Aside0.mk (Below.refl w.heap.size w)
  have H : ((label_Split.f a0).bind fun bt142 => (some bt142.2.2)) = some r := h
  clear h
  replace H := Option.bind_eq_some_iff.mp H
  obtain ⟨⟨t142, t143, t144⟩, A20, H⟩ := H
  replace H : (some t144) = some r := H
  have A2 := Aside0.mk A20
  clear A20
  obtain rfl := Option.some.inj H
  go_enter Tryd.func26, Tryd.ntmps26
  go_wp2_with (first | ((with_reducible refine gate_callee (f := 41) rfl ?_); refine goesL_ (some 8) rfl rfl Tryd.func41 (by kernel_rfl) rfl #[.string a0] rfl (by (try simp only [List.map_toArray, List.map_cons, List.map_nil]); first | done | rfl | (simp only [List.length_drop, List.length_take]; rfl)) ?_; (with_reducible refine (label_Split.calls a0 t142 t143 t144 _ ?side1 A2.out).mono ?_); (case side1 => first | exact hLd_.out | exact hLd_ | exact ⟨LaidW.below hLd_.out (by repeat (first | (with_reducible first | exact HB.out | apply below_alloc | apply pw_below_drewN | apply below_drew1) | exact HB.out))⟩ | exact ⟨LaidW.below hLd_.out (by repeat (first | exact Below.refl _ _ | apply below_alloc | apply pw_below_drewN | apply below_drew1))⟩); rintro e w3 ⟨rfl, hb⟩; refine ⟨_, rfl, ?_⟩; have n0_ := Aside0.mk (below_step (by repeat (first | (with_reducible first | exact HB.out | apply below_alloc | apply pw_below_drewN | apply below_drew1) | exact HB.out)) hb); clear HB; have HB := n0_; clear n0_; (try clear hb); (try clear hb2); (try clear hk); (try clear hi)))
  go_ret
  exact ⟨by first | rfl | (simp [errW_none, errW_some] <;> rfl) | (simp [*, errW_none, errW_some] <;> rfl), by repeat (first | (with_reducible first | exact HB.out | apply below_alloc | apply pw_below_drewN | apply below_drew1) | exact HB.out)⟩

/-! ### label_Tag: function 27 -/
def label_Tag.f (a0 : ByteArray) : Option (Bool) := (label_short.f a0 8).bind fun t145 => (some t145)
set_option maxHeartbeats 8000000 in
set_option maxRecDepth 100000 in
theorem label_Tag.calls (a0 : ByteArray) (r : Bool) (w : World) (h : label_Tag.f a0 = some r) :
    Calls Tryd.prog 27 #[.string a0] w fun e w' => e = .returned (.bool r) ∧ Below w.heap.size w w' := by
  have HB := Aside0.mk (Below.refl w.heap.size w)
  have H : ((label_short.f a0 8).bind fun t145 => (some t145)) = some r := h
  clear h
  replace H := Option.bind_eq_some_iff.mp H
  obtain ⟨t145, A20, H⟩ := H
  replace H : (some t145) = some r := H
  have A2 := Aside0.mk A20
  clear A20
  obtain rfl := Option.some.inj H
  go_enter Tryd.func27, Tryd.ntmps27
  go_wp2_with (first | ((with_reducible refine gate_callee (f := 42) rfl ?_); refine goesL_ (some 4) rfl rfl Tryd.func42 (by kernel_rfl) rfl #[.string a0, .int .i64 8] rfl (by (try simp only [List.map_toArray, List.map_cons, List.map_nil]); first | done | rfl | (simp only [List.length_drop, List.length_take]; rfl)) ?_; (with_reducible refine (label_short.calls a0 8 t145 _ A2.out).mono ?_); rintro e w3 ⟨rfl, hb⟩; refine ⟨_, rfl, ?_⟩; have n0_ := Aside0.mk (below_step (by repeat (first | (with_reducible first | exact HB.out | apply below_alloc | apply pw_below_drewN | apply below_drew1) | exact HB.out)) hb); clear HB; have HB := n0_; clear n0_; (try clear hb); (try clear hb2); (try clear hk); (try clear hi)))
  go_ret
  exact ⟨by first | rfl | (simp [errW_none, errW_some] <;> rfl) | (simp [*, errW_none, errW_some] <;> rfl), by repeat (first | (with_reducible first | exact HB.out | apply below_alloc | apply pw_below_drewN | apply below_drew1) | exact HB.out)⟩

-- NOT PRINTED: function 28 (table_rising)

-- NOT PRINTED: function 29 (table_revs)

-- NOT PRINTED: function 30 (table_tags)

/-! ### table_Right: function 12 -/
/-- The call is one over this very row. -/
theorem at_slice {P : Program} {f : FuncId} {A : Option Addr} {α : Type} (l : List α) {c : Nat} {v : Value} {w : World} {K : Ending → World → Prop} (h : Calls P f #[.agg #[.slice A l.length c, v]] w K) : Calls P f #[.agg #[.slice A l.length c, v]] w K := h
/-- Shares, one by one: their sum, where none of them may not be. -/
def rs1 : List S32 → Int → Option (Option Int)
  | [], s => some (some s)
  | x :: xs, s => (table_named.f x.f0).bind fun b => if b = true ∧ 1 ≤ x.f1 ∧ x.f1 ≤ 100 then rs1 xs (wrap64 (s + x.f1)) else some none
/-- Tags, one by one. -/
def rs2 : List S35 → Option Bool
  | [] => some true
  | x :: xs => (label_Tag.f x.f0).bind fun b => if b = true then (table_named.f x.f1).bind fun c => if c = true then rs2 xs else some false else some false
/-- What is asked last. -/
def rs3 (l0 : List S32) (l1 : List S35) (s : Int) : Bool := (s == 100) && (Rise.rise (l0.map (·.f0)) && Rise.rise (l1.map (·.f0)))
def rsE (l0 : List S32) (l1 : List S35) (o : Option Int) : Option Bool := match o with | none => some false | some s => (rs2 l1).bind fun b => some (b && rs3 l0 l1 s)
def table_Right.f (l0 : List (S32)) (l1 : List (S35)) : Option Bool := (rs1 l0 0).bind fun o => rsE l0 l1 o
theorem rs1_step (l : List S32) (s x : Int) (h0 : 0 ≤ x) (h1 : x < (l.length : Int)) : rs1 (l.drop x.toNat) s = (table_named.f (rd_T32 l x).f0).bind fun b => if b = true ∧ 1 ≤ (rd_T32 l x).f1 ∧ (rd_T32 l x).f1 ≤ 100 then rs1 (l.drop (x + 1).toNat) (wrap64 (s + (rd_T32 l x).f1)) else some none := by
  have hn : x.toNat < l.length := by omega
  have e : rd_T32 l x = l[x.toNat] := by
    unfold rd_T32
    rw [List.getD_eq_getElem?_getD, List.getElem?_eq_getElem hn, Option.getD_some]
  rw [e, show (x + 1).toNat = x.toNat + 1 by omega, List.drop_eq_getElem_cons hn]
  rfl
theorem rs2_step (l : List S35) (x : Int) (h0 : 0 ≤ x) (h1 : x < (l.length : Int)) : rs2 (l.drop x.toNat) = (label_Tag.f (rd_T35 l x).f0).bind fun b => if b = true then (table_named.f (rd_T35 l x).f1).bind fun c => if c = true then rs2 (l.drop (x + 1).toNat) else some false else some false := by
  have hn : x.toNat < l.length := by omega
  have e : rd_T35 l x = l[x.toNat] := by
    unfold rd_T35
    rw [List.getD_eq_getElem?_getD, List.getElem?_eq_getElem hn, Option.getD_some]
  rw [e, show (x + 1).toNat = x.toNat + 1 by omega, List.drop_eq_getElem_cons hn]
  rfl
set_option maxHeartbeats 8000000 in
set_option maxRecDepth 100000 in
theorem revs_walk (A0 A1 : Option Addr) (n0 n1 c0 c1 : Nat) (w : World) :
    Calls Tryd.prog 29 #[.agg #[.slice A0 n0 c0, .slice A1 n1 c1]] w fun e w' => e = .returned (.func (.func 43) #[] #[.pointer (some ⟨w.heap.size, 0, none⟩)]) ∧ w' = w.alloc (.cells #[.slice A0 n0 c0, .slice A1 n1 c1] 25) := by
  go_enter Tryd.func29, Tryd.ntmps29
  go_wp2_with fail
  go_ret
  exact ⟨rfl, rfl⟩
set_option maxHeartbeats 8000000 in
set_option maxRecDepth 100000 in
theorem tags_walk (A0 A1 : Option Addr) (n0 n1 c0 c1 : Nat) (w : World) :
    Calls Tryd.prog 30 #[.agg #[.slice A0 n0 c0, .slice A1 n1 c1]] w fun e w' => e = .returned (.func (.func 44) #[] #[.pointer (some ⟨w.heap.size, 0, none⟩)]) ∧ w' = w.alloc (.cells #[.slice A0 n0 c0, .slice A1 n1 c1] 25) := by
  go_enter Tryd.func30, Tryd.ntmps30
  go_wp2_with fail
  go_ret
  exact ⟨rfl, rfl⟩
theorem getD_map {α β : Type} (f : α → β) (l : List α) (i : Nat) (a : α) (b : β) (h : i < l.length) : (l.map f).getD i b = f (l.getD i a) := by
  rw [List.getD_eq_getElem?_getD, List.getD_eq_getElem?_getD, List.getElem?_map, List.getElem?_eq_getElem h]; rfl
/-- Do the names of Shares rise. -/
theorem rise_revs (A0 A1 : Option Addr) (l0 : List S32) (n1 c0 c1 : Nat) (w : World) (g : Nat) (hK : w.heap[g]? = some (.cells #[.slice A0 l0.length c0, .slice A1 n1 c1] 25 (0, 0))) (hC : Kd.C k32 w A0 l0.length l0) :
    Calls Tryd.prog 28 #[.func (.func 43) #[] #[.pointer (some ⟨g, 0, none⟩)]] w fun e w' => e = .returned (.bool (Rise.rise (l0.map (·.f0)))) ∧ Below w.heap.size w w' := by
  have hm : ((l0.map (·.f0)).length : Int) ≤ 9223372036854775807 := by rw [List.length_map]; have := Kd.C_max hC; omega
  refine callsIn_wide.1 (Rise.rising_in Fence.wide 3 trivial 43 trivial (enters_of Tryd.func43 (by kernel_rfl) rfl) rfl (by omega) g _ w ?_)
  refine Rise.revs1_in Fence.wide 2 trivial rfl (by omega) g w.heap.size A0 c0 (l0.map (·.f0)) (l0.map (·.f1)) hm w (blk_lt hK) (Nat.le_refl _) ?_ ?_
  · rw [List.length_map]; exact (blk_cell hK 0).trans rfl
  · intro x h0 h1
    rw [List.length_map] at h1
    obtain ⟨ad, e, q0, q1⟩ := at_T32 hC x h0 h1
    refine ⟨ad, e, by have := World.block_lt_of_cell? _ _ q0; rwa [add_block] at this, ?_, ?_⟩
    · rw [getD_map _ l0 _ z32 _ (by omega)]; exact q0
    · rw [getD_map _ l0 _ z32 _ (by omega)]; exact q1
/-- Do tags rise. -/
theorem rise_tags (A0 A1 : Option Addr) (l1 : List S35) (n0 c0 c1 : Nat) (w : World) (g : Nat) (hK : w.heap[g]? = some (.cells #[.slice A0 n0 c0, .slice A1 l1.length c1] 25 (0, 0))) (hC : Kd.C k35 w A1 l1.length l1) :
    Calls Tryd.prog 28 #[.func (.func 44) #[] #[.pointer (some ⟨g, 0, none⟩)]] w fun e w' => e = .returned (.bool (Rise.rise (l1.map (·.f0)))) ∧ Below w.heap.size w w' := by
  have hm : ((l1.map (·.f0)).length : Int) ≤ 9223372036854775807 := by rw [List.length_map]; have := Kd.C_max hC; omega
  refine callsIn_wide.1 (Rise.rising_in Fence.wide 3 trivial 44 trivial (enters_of Tryd.func44 (by kernel_rfl) rfl) rfl (by omega) g _ w ?_)
  refine Rise.tags1_in Fence.wide 2 trivial rfl (by omega) g w.heap.size A1 c1 (l1.map (·.f0)) (l1.map (·.f1)) hm w (blk_lt hK) (Nat.le_refl _) ?_ ?_
  · rw [List.length_map]; exact (blk_cell hK 1).trans rfl
  · intro x h0 h1
    rw [List.length_map] at h1
    obtain ⟨ad, e, q0, q1⟩ := at_T35 hC x h0 h1
    refine ⟨ad, e, by have := World.block_lt_of_cell? _ _ q0; rwa [add_block] at this, ?_, ?_⟩
    · rw [getD_map _ l1 _ z35 _ (by omega)]; exact q0
    · rw [getD_map _ l1 _ z35 _ (by omega)]; exact q1
set_option maxHeartbeats 16000000 in
set_option maxRecDepth 100000 in
theorem table_Right.calls (A0_0 : Option Addr) (c0_0 : Nat) (l0_0 : List (S32)) (A0_1 : Option Addr) (c0_1 : Nat) (l0_1 : List (S35)) (r : Bool) (w : World) (hLd_ : Aside0 (LaidW w)) (hr0_0 : Kd.C k32 w A0_0 l0_0.length l0_0) (hc0_0 : l0_0.length ≤ c0_0) (hr0_1 : Kd.C k35 w A0_1 l0_1.length l0_1) (hc0_1 : l0_1.length ≤ c0_1) (h : table_Right.f l0_0 l0_1 = some r) :
    Calls Tryd.prog 12 #[.agg #[.slice A0_0 l0_0.length c0_0, .slice A0_1 l0_1.length c0_1]] w fun e w' => e = .returned (.bool r) ∧ Below w.heap.size w w' := by
  have hm0 : (l0_0.length : Int) ≤ 9223372036854775807 := by have := Kd.C_max hr0_0; omega
  have hm1 : (l0_1.length : Int) ≤ 9223372036854775807 := by have := Kd.C_max hr0_1; omega
  unfold table_Right.f at h
  obtain ⟨o, ho, h⟩ := Option.bind_eq_some_iff.mp h
  have HO : Aside0 (rs1 (l0_0.drop (0 : Int).toNat) 0 = some o) := ⟨by simpa using ho⟩
  have HR := Aside0.mk h
  have HC0 := Aside0.mk hr0_0
  have HC1 := Aside0.mk hr0_1
  have HK0 := Aside0.mk (show (w.alloc (.cells #[.slice A0_0 l0_0.length c0_0, .slice A0_1 l0_1.length c0_1] 25)).heap[w.heap.size]? = some (.cells #[.slice A0_0 l0_0.length c0_0, .slice A0_1 l0_1.length c0_1] 25 (0, 0)) from blk_new _ _)
  have HB0 := Aside0.mk (show Below w.heap.size w (w.alloc (.cells #[.slice A0_0 l0_0.length c0_0, .slice A0_1 l0_1.length c0_1] 25)) from (Below.refl _ _).alloc (Nat.le_refl _) _)
  clear h ho hr0_0 hr0_1
  go_enter Tryd.func12, Tryd.ntmps12
  go_wp2_with fail
  go_loopw [3, 11] (fun v3 v11 w' => ∃ s x : Int, 0 ≤ x ∧ x ≤ (l0_0.length : Int) ∧ v3 = .int .i64 s ∧ v11 = .int .i64 x ∧ Aside0 (rs1 (l0_0.drop x.toNat) s = some o) ∧ Aside0 (w'.heap[w.heap.size]? = some (.cells #[.slice A0_0 l0_0.length c0_0, .slice A0_1 l0_1.length c0_1] 25 (0, 0))) ∧ Aside0 (Below w.heap.size w w')) (fun v3 v11 w' => l0_0.length - (intOf v11).toNat)
  case atStart => exact ⟨0, 0, by omega, by omega, rfl, rfl, HO, HK0, HB0⟩
  case round =>
    clear HO HK0 HB0
    obtain ⟨s, x, hx0, hx1, rfl, rfl, HI, HK, HB⟩ := hrel
    by_cases hlt : x < (l0_0.length : Int)
    · have hst := rs1_step l0_0 s x hx0 hlt
      rw [HI.out] at hst
      obtain ⟨ad, e, q0, q1⟩ := at_T32 (Kd.C_below HC0.out HB.out) x hx0 hlt
      subst e
      have hx2 : wrap64 (x + 1) = x + 1 := by unfold wrap64; omega
      have hx3 := eq_true hx0
      have hx4 := eq_true hlt
      have hdec : decide (x < (l0_0.length : Int)) = true := decide_eq_true hlt
      generalize hq : rd_T32 l0_0 x = y at q0 q1 hst
      clear hq
      obtain ⟨y0, y1⟩ := y
      simp only at q0 q1 hst
      obtain ⟨b, hb, hst⟩ := Option.bind_eq_some_iff.mp hst.symm
      have hcall := fun (W : World) (hL : Aside0 (LaidW W)) => table_named.calls y0 b W hL hb
      have HC := Lib.hid hcall
      have HST := Aside0.mk hst
      have HK' := Aside0.mk (blk_alloc HK.out (.cells #[.string y0, .int .i64 y1] 32 (0, 0)))
      clear hcall hb hst
      go_wp2_with fail
      refine (HC.out _ ⟨hLd_.out.below (below_alloc HB.out _)⟩).mono ?_
      rintro e w2 ⟨rfl, hb2⟩
      have hN := blk_below (blk_new wr (.cells #[.string y0, .int .i64 y1] 32 (0, 0))) hb2
      have c1 : w2.cell? ⟨wr.heap.size, 1, none⟩ = some (.int .i64 y1) := (blk_cell hN 1).trans rfl
      have HK2 := Aside0.mk (blk_below HK'.out hb2)
      have HB2 := Aside0.mk (below_step (below_alloc HB.out _) hb2)
      clear hb2 hN HK' q0 q1
      cases b with
      | false =>
        have HSF := HST.out
        rw [if_neg (by simp)] at HSF
        obtain rfl := Option.some.inj HSF
        have hr := HR.out
        obtain rfl : false = r := Option.some.inj hr
        go_wp2_with fail
        go_ret
        exact ⟨rfl, HB2.out⟩
      | true =>
        by_cases g1 : y1 < 1
        · have HSF := HST.out
          rw [if_neg (by omega)] at HSF
          obtain rfl := Option.some.inj HSF
          have hr := HR.out
          obtain rfl : false = r := Option.some.inj hr
          clear hr HSF
          have d1 : decide (y1 < 1) = true := decide_eq_true g1
          go_wp2_with fail
          go_ret
          exact ⟨rfl, HB2.out⟩
        · have d1 : decide (y1 < 1) = false := decide_eq_false g1
          by_cases g2 : 100 < y1
          · have HSF := HST.out
            rw [if_neg (by omega)] at HSF
            obtain rfl := Option.some.inj HSF
            have hr := HR.out
            obtain rfl : false = r := Option.some.inj hr
            clear hr HSF
            have d2 : decide (100 < y1) = true := decide_eq_true g2
            go_wp2_with fail
            go_ret
            exact ⟨rfl, HB2.out⟩
          · have HSF := HST.out
            rw [if_pos ⟨rfl, by omega, by omega⟩] at HSF
            have d2 : decide (100 < y1) = false := decide_eq_false g2
            have HS2 := Aside0.mk HSF
            clear HSF
            go_wp2_with fail
            go_roundw
            case rel => exact ⟨_, x + 1, by omega, by omega, rfl, by first | rfl | rw [hx2], HS2, HK2, HB2⟩
            case measure => simp [intOf]; omega
    · have hen := HI.out
      rw [List.drop_eq_nil_of_le (by omega), rs1] at hen
      obtain rfl := Option.some.inj hen
      have hdec : decide (x < (l0_0.length : Int)) = false := decide_eq_false hlt
      have hdec2 := eq_false hlt
      have hr := HR.out
      unfold rsE at hr
      obtain ⟨b, hb, hr⟩ := Option.bind_eq_some_iff.mp hr
      have hr := Option.some.inj hr
      have HO : Aside0 (rs2 (l0_1.drop (0 : Int).toNat) = some b) := ⟨by simpa using hb⟩
      have HR2 := Aside0.mk hr
      have k0 : wr.cell? ⟨w.heap.size, 0, none⟩ = some (.slice A0_0 l0_0.length c0_0) := (blk_cell HK.out 0).trans rfl
      have k1 : wr.cell? ⟨w.heap.size, 1, none⟩ = some (.slice A0_1 l0_1.length c0_1) := (blk_cell HK.out 1).trans rfl
      clear hen hr hb HR HI
      go_wp2_with fail
      clear k0 k1 hdec hdec2
      go_loopw [37] (fun v37 w'' => ∃ x : Int, 0 ≤ x ∧ x ≤ (l0_1.length : Int) ∧ v37 = .int .i64 x ∧ Aside0 (rs2 (l0_1.drop x.toNat) = some b) ∧ Aside0 (w''.heap[w.heap.size]? = some (.cells #[.slice A0_0 l0_0.length c0_0, .slice A0_1 l0_1.length c0_1] 25 (0, 0))) ∧ Aside0 (Below w.heap.size w w'')) (fun v37 w'' => l0_1.length - (intOf v37).toNat)
      case atStart => exact ⟨0, by omega, by omega, rfl, HO, HK, HB⟩
      case round =>
        clear HO HK HB
        obtain ⟨x2, hy0, hy1, rfl, HI, HK, HB⟩ := hrel
        by_cases hlt2 : x2 < (l0_1.length : Int)
        · have hst := rs2_step l0_1 x2 hy0 hlt2
          rw [HI.out] at hst
          obtain ⟨ad, e, q0, q1⟩ := at_T35 (Kd.C_below HC1.out HB.out) x2 hy0 hlt2
          subst e
          have hx2 : wrap64 (x2 + 1) = x2 + 1 := by unfold wrap64; omega
          have hx3 := eq_true hy0
          have hx4 := eq_true hlt2
          have hdec : decide (x2 < (l0_1.length : Int)) = true := decide_eq_true hlt2
          generalize hq : rd_T35 l0_1 x2 = y at q0 q1 hst
          clear hq
          obtain ⟨y0, y1⟩ := y
          simp only at q0 q1 hst
          obtain ⟨b1, hb1, hst⟩ := Option.bind_eq_some_iff.mp hst.symm
          have hcall := fun (W : World) => label_Tag.calls y0 b1 W hb1
          have HC := Lib.hid hcall
          have HST := Aside0.mk hst
          have HK' := Aside0.mk (blk_alloc HK.out (.cells #[.string y0, .string y1] 35 (0, 0)))
          clear hcall hb1 hst
          go_wp2_with fail
          refine (HC.out _).mono ?_
          rintro e w2 ⟨rfl, hb2⟩
          have hN := blk_below (blk_new wr (.cells #[.string y0, .string y1] 35 (0, 0))) hb2
          have c1 : w2.cell? ⟨wr.heap.size, 1, none⟩ = some (.string y1) := (blk_cell hN 1).trans rfl
          have HK2 := Aside0.mk (blk_below HK'.out hb2)
          have HB2 := Aside0.mk (below_step (below_alloc HB.out _) hb2)
          clear hb2 hN HK' q0 q1
          cases b1 with
          | false =>
            have HSF := HST.out
            rw [if_neg (by simp)] at HSF
            obtain rfl := Option.some.inj HSF
            have hr := HR2.out
            rw [Bool.false_and] at hr
            subst hr
            go_wp2_with fail
            go_ret
            exact ⟨rfl, HB2.out⟩
          | true =>
            have HSF := HST.out
            rw [if_pos rfl] at HSF
            obtain ⟨b2, hb2, HSF⟩ := Option.bind_eq_some_iff.mp HSF
            have hcall := fun (W : World) (hL : Aside0 (LaidW W)) => table_named.calls y1 b2 W hL hb2
            have HD := Lib.hid hcall
            have HS2 := Aside0.mk HSF
            clear hcall hb2 HSF HST
            go_wp2_with fail
            refine (HD.out _ ⟨hLd_.out.below HB2.out⟩).mono ?_
            rintro e w3 ⟨rfl, hb3⟩
            have HK3 := Aside0.mk (blk_below HK2.out hb3)
            have HB3 := Aside0.mk (below_step HB2.out hb3)
            clear hb3 HK2 HB2 c1
            cases b2 with
            | false =>
              have HSF := HS2.out
              rw [if_neg (by simp)] at HSF
              obtain rfl := Option.some.inj HSF
              have hr := HR2.out
              rw [Bool.false_and] at hr
              subst hr
              go_wp2_with fail
              go_ret
              exact ⟨rfl, HB3.out⟩
            | true =>
              have HSF := HS2.out
              rw [if_pos rfl] at HSF
              have HS3 := Aside0.mk HSF
              clear HSF HS2
              go_wp2_with fail
              go_roundw
              case rel => exact ⟨x2 + 1, by omega, by omega, by first | rfl | rw [hx2], HS3, HK3, HB3⟩
              case measure => simp [intOf]; omega
        · have hen := HI.out
          rw [List.drop_eq_nil_of_le (by omega), rs2] at hen
          obtain rfl := Option.some.inj hen
          have hdec : decide (x2 < (l0_1.length : Int)) = false := decide_eq_false hlt2
          have hdec2 := eq_false hlt2
          have k0 : wr.cell? ⟨w.heap.size, 0, none⟩ = some (.slice A0_0 l0_0.length c0_0) := (blk_cell HK.out 0).trans rfl
          have k1 : wr.cell? ⟨w.heap.size, 1, none⟩ = some (.slice A0_1 l0_1.length c0_1) := (blk_cell HK.out 1).trans rfl
          have hr := HR2.out
          rw [Bool.true_and, rs3] at hr
          clear hen HR2
          by_cases h100 : s = 100
          · have h1 : (s == 100) = true := beq_iff_eq.mpr h100
            rw [h1, Bool.true_and] at hr
            obtain ⟨r1, e1⟩ : ∃ r1 : Bool, Rise.rise (l0_0.map (·.f0)) = r1 := ⟨_, rfl⟩
            obtain ⟨r2, e2⟩ : ∃ r2 : Bool, Rise.rise (l0_1.map (·.f0)) = r2 := ⟨_, rfl⟩
            have hR1 := fun (W : World) (g : Nat) hK hC => rise_revs A0_0 A0_1 l0_0 l0_1.length c0_0 c0_1 W g hK hC
            have hR2 := fun (W : World) (g : Nat) hK hC => rise_tags A0_0 A0_1 l0_1 l0_0.length c0_0 c0_1 W g hK hC
            rw [e1] at hR1 hr
            rw [e2] at hR2 hr
            have HR1 := Lib.hid hR1
            have HR2 := Lib.hid hR2
            have HRR := Aside0.mk hr
            clear hR1 hR2 hr e1 e2
            subst h100
            go_wp2_with fail
            refine (revs_walk _ _ _ _ _ _ _).mono ?_
            rintro e w1 ⟨rfl, rfl⟩
            go_wp2_with fail
            refine (HR1.out _ wr.heap.size (blk_new _ _) (Kd.C_alloc (Kd.C_below HC0.out HB.out) _)).mono ?_
            rintro e w2 ⟨rfl, hb2⟩
            have HB2 := Aside0.mk (below_step (below_alloc HB.out _) hb2)
            have HK2 := Aside0.mk (blk_below (blk_alloc HK.out _) hb2)
            have m0 : w2.cell? ⟨w.heap.size, 0, none⟩ = some (.slice A0_0 l0_0.length c0_0) := (blk_cell HK2.out 0).trans rfl
            have m1 : w2.cell? ⟨w.heap.size, 1, none⟩ = some (.slice A0_1 l0_1.length c0_1) := (blk_cell HK2.out 1).trans rfl
            clear hb2 k0 k1
            cases r1 with
            | false =>
              have hr := HRR.out
              rw [Bool.false_and] at hr
              subst hr
              go_wp2_with fail
              go_ret
              exact ⟨rfl, HB2.out⟩
            | true =>
              have hr := HRR.out
              rw [Bool.true_and] at hr
              subst hr
              go_wp2_with fail
              refine (tags_walk _ _ _ _ _ _ _).mono ?_
              rintro e w3 ⟨rfl, rfl⟩
              go_wp2_with fail
              refine (HR2.out _ w2.heap.size (blk_new _ _) (Kd.C_alloc (Kd.C_below HC1.out HB2.out) _)).mono ?_
              rintro e w4 ⟨rfl, hb4⟩
              have HB4 := Aside0.mk (below_step (below_alloc HB2.out _) hb4)
              clear hb4
              go_wp2_with fail
              go_ret
              exact ⟨rfl, HB4.out⟩
          · have h1 : (s == 100) = false := beq_eq_false_iff_ne.mpr h100
            rw [h1, Bool.false_and] at hr
            subst hr
            clear h100
            go_wp2_with fail
            go_ret
            exact ⟨rfl, HB.out⟩

/-! ### table_Pick: function 16 -/
def table_Pick.l0 : Nat → Int → List (S32) → Int → Int → Option (ByteArray)
  | 0, _, _, _, _ => none
  | k + 1, x1, x12, x13, x14 => if x14 < x13 then (if 0 ≤ x14 then (if x14 < (x12.length : Int) then (if x1 < ((rd_T32 x12 x14).f1) then (some ((rd_T32 x12 x14).f0)) else (table_Pick.l0 k (wrap64 (x1 - ((rd_T32 x12 x14).f1))) x12 x13 (wrap64 (x14 + 1)))) else (none)) else (none)) else (some (⟨#[]⟩ : ByteArray))
def table_Pick.f (k : Nat) (l0_0 : List (S32)) (l0_1 : List (S35)) (a1 : Int) : Option (ByteArray) := table_Pick.l0 k (Int.tmod (wrap64 ((Int.tmod a1 100) + 100)) 100) l0_0 (l0_0.length : Int) 0
theorem table_Pick.mono_l : ∀ k, (∀ y0 y1 y2 y3, LeO (table_Pick.l0 k y0 y1 y2 y3) (table_Pick.l0 (k + 1) y0 y1 y2 y3))
  | 0 => fun _ _ _ _ r h => by simp [table_Pick.l0] at h
  | k + 1 => by
    have ih0 := table_Pick.mono_l k
    · intro y0 y1 y2 y3
      unfold table_Pick.l0
      repeat' first
      | (with_reducible exact ih0 _ _ _ _)
      | (with_reducible exact LeO.refl _)
      | (with_reducible exact LeO.none _)
      | (with_reducible refine LeO.ite ?_ ?_)
      | (with_reducible refine LeO.bind ?_ (fun _ => ?_))
      | exact ih0 _ _ _ _
      | exact LeO.none _
      | refine LeO.ite ?_ ?_
      | refine LeO.bind ?_ (fun _ => ?_)
theorem table_Pick.mono : ∀ a0 a1 a2 k, LeO (table_Pick.f k a0 a1 a2) (table_Pick.f (k + 1) a0 a1 a2) := by
  intro a0 a1 a2 k
  have ih0 := table_Pick.mono_l k
  unfold table_Pick.f
  repeat' first
      | (with_reducible exact ih0 _ _ _ _)
      | (with_reducible exact LeO.refl _)
      | (with_reducible exact LeO.none _)
      | (with_reducible refine LeO.ite ?_ ?_)
      | (with_reducible refine LeO.bind ?_ (fun _ => ?_))
      | exact ih0 _ _ _ _
      | exact LeO.none _
      | refine LeO.ite ?_ ?_
      | refine LeO.bind ?_ (fun _ => ?_)
set_option maxHeartbeats 8000000 in
set_option maxRecDepth 100000 in
theorem table_Pick.calls (k : Nat) (A0_0 : Option Addr) (c0_0 : Nat) (l0_0 : List (S32)) (A0_1 : Option Addr) (c0_1 : Nat) (l0_1 : List (S35)) (a1 : Int) (r : ByteArray) (w : World) (hr0_0 : Kd.C k32 w A0_0 l0_0.length l0_0) (hc0_0 : l0_0.length ≤ c0_0) (hr0_1 : Kd.C k35 w A0_1 l0_1.length l0_1) (hc0_1 : l0_1.length ≤ c0_1) (h : table_Pick.f k l0_0 l0_1 a1 = some r) :
    Calls Tryd.prog 16 #[.agg #[.slice A0_0 l0_0.length c0_0, .slice A0_1 l0_1.length c0_1], .int .i64 a1] w fun e w' => e = .returned (.string r) ∧ Below w.heap.size w w' := by
  have hu25 := Tryd.underlying25
  have hu32 := Tryd.underlying32
  have HR0_0 := Aside0.mk hr0_0
  have HC0_0 := Aside0.mk hc0_0
  clear hr0_0 hc0_0
  have HR0_1 := Aside0.mk hr0_1
  have HC0_1 := Aside0.mk hc0_1
  clear hr0_1 hc0_1
  have HB := Aside0.mk (Below.refl w.heap.size w)
  have H : (table_Pick.l0 k (Int.tmod (wrap64 ((Int.tmod a1 100) + 100)) 100) l0_0 (l0_0.length : Int) 0) = some r := h
  clear h
  have H' := Aside0.mk H
  clear H
  go_enter Tryd.func16, Tryd.ntmps16
  go_wp2_with (first | ((with_reducible refine gate_dst (N := 2) rfl ?_); refine box_event ?hg (N := 2) ?hd (cs := #[.slice A0_0 l0_0.length c0_0, .slice A0_1 l0_1.length c0_1]) (t := 25) ?hr ?_; (case hd => rfl); (case hg => rfl); (case hr => first | (go_simp; done) | (go_simp; rfl)); intro gb146 hg w3 hbox hb; have n0_ := Aside0.mk (below_step (by repeat (first | (with_reducible first | exact HB.out | apply below_alloc | apply pw_below_drewN | apply below_drew1) | exact HB.out)) hb); have n1_ := Aside0.mk (hbox); have n2_ := Aside0.mk ((by rw [hg]; exact (below_size (by repeat (first | (with_reducible first | exact HB.out | apply below_alloc | apply pw_below_drewN | apply below_drew1) | exact HB.out))) : w.heap.size ≤ gb146)); have n3_ := Aside0.mk ((by rw [hg]; exact (below_size (by repeat (first | (with_reducible first | exact HB.out | apply below_alloc | apply pw_below_drewN | apply below_drew1) | exact HB.out))) : w.heap.size ≤ gb146)); clear HB; have HB := n0_; have BK146 := n1_; have GW146 := n2_; have GE146 := n3_; clear n0_ n1_ n2_ n3_; clear hb hbox hg; have hcz4_0 : w3.cell? ⟨gb146, 0, none⟩ = some (.slice A0_0 l0_0.length c0_0) := bc BK146 0; have hcz4_1 : w3.cell? ⟨gb146, 1, none⟩ = some (.slice A0_1 l0_1.length c0_1) := bc BK146 1; have hfz4_0 := blk_frozen BK146.out 0; have hfz4_1 := blk_frozen BK146.out 1))
  go_loopg [1, 14] k (fun kq v1 v14 w' => ∃ (x1_1 : Int) (x14_1 : Int), v1 = .int .i64 x1_1 ∧ v14 = .int .i64 x14_1 ∧ Aside0 (table_Pick.l0 kq x1_1 l0_0 (l0_0.length : Int) x14_1 = some r) ∧ Aside0 (kq ≤ k) ∧ Aside0 (w'.heap[gb146]? = some (.cells #[(.slice A0_0 l0_0.length c0_0), (.slice A0_1 l0_1.length c0_1)] 25 (0, 0))) ∧ Aside0 (Below w.heap.size w w'))
  case atStart => exact ⟨(Int.tmod (wrap64 ((Int.tmod a1 100) + 100)) 100), (0), (by first | rfl | (simp; done) | (simp [*]; done)), (by first | rfl | (simp; done) | (simp [*]; done)), H', ⟨Nat.le_refl _⟩, ⟨by (with_reducible repeat (first | refine blk_drewN ?_ _ | refine blk_drew ?_ | refine blk_alloc ?_ _)); exact BK146.out⟩, ⟨by repeat (first | (with_reducible first | exact HB.out | apply below_alloc | apply pw_below_drewN | apply below_drew1 | refine below_set ?_ GE146.out) | exact HB.out)⟩⟩
  case round =>
    clear H'
    try clear c1
    try clear p2
    try clear hcz4_0
    try clear hcz4_1
    try clear hfz4_0
    try clear hfz4_1
    obtain ⟨x1_1, x14_1, rfl, rfl, HA, HK1, BK146, HB⟩ := hrel
    cases gk with
    | zero => exact absurd HA.out (by simp [table_Pick.l0])
    | succ k1 =>
      have H := HA.out
      clear HA
      simp only [table_Pick.l0] at H
      by_cases c5 : x14_1 < (l0_0.length : Int)
      · rw [if_pos c5] at H
        have c5b0 : decide (x14_1 < (l0_0.length : Int)) = true := decide_eq_true c5
        clear c5
        by_cases c6 : 0 ≤ x14_1
        rotate_left
        · rw [if_neg c6] at H
          exact absurd H (by simp)
        rw [if_pos c6] at H
        have c6b0 : decide (0 ≤ x14_1) = true := decide_eq_true c6
        clear c6
        by_cases c7 : x14_1 < (l0_0.length : Int)
        rotate_left
        · rw [if_neg c7] at H
          exact absurd H (by simp)
        rw [if_pos c7] at H
        have c7b0 : decide (x14_1 < (l0_0.length : Int)) = true := decide_eq_true c7
        clear c7
        by_cases c8 : x1_1 < ((rd_T32 l0_0 x14_1).f1)
        · rw [if_pos c8] at H
          have c8b0 : decide (x1_1 < ((rd_T32 l0_0 x14_1).f1)) = true := decide_eq_true c8
          clear c8
          obtain rfl := Option.some.inj H
          have p147 : 0 ≤ (x14_1 : Int) := of_decide_eq_true (by first | (with_reducible assumption) | assumption)
          have q147 : x14_1 < (l0_0.length : Int) := of_decide_eq_true (by first | (with_reducible assumption) | assumption)
          obtain ⟨ad147, e147, hx147_0, hx147_1⟩ := at_T32 HR0_0.out x14_1 p147 q147
          cases e147
          replace hx147_0 := (HB.out.cell (World.block_lt_of_cell? w _ hx147_0)).trans hx147_0
          replace hx147_1 := (HB.out.cell (World.block_lt_of_cell? w _ hx147_1)).trans hx147_1
          replace p147 := eq_true p147
          replace q147 := eq_true q147
          go_wp2_with (first | ((with_reducible refine gate_dst (N := 6) rfl ?_); refine box_event ?hg (N := 6) ?hd (cs := #[.string (⟨#[]⟩ : ByteArray), .int .i64 0]) (t := 32) ?hr ?_; (case hd => rfl); (case hg => rfl); (case hr => first | (go_simp; done) | (go_simp; rfl)); intro gb148 hg w9 hbox hb; have n0_ := Aside0.mk (blk_below (g := gb146) (pk BK146) hb); have n1_ := Aside0.mk (below_step (by repeat (first | (with_reducible first | exact HB.out | apply below_alloc | apply pw_below_drewN | apply below_drew1 | refine below_set ?_ GE146.out) | exact HB.out)) hb); have n2_ := Aside0.mk (hbox); have n3_ := Aside0.mk ((by rw [hg]; exact (below_size (by repeat (first | (with_reducible first | exact HB.out | apply below_alloc | apply pw_below_drewN | apply below_drew1 | refine below_set ?_ GE146.out) | exact HB.out))) : w.heap.size ≤ gb148)); have n4_ := Aside0.mk ((by rw [hg]; exact (below_size (by repeat (first | (with_reducible first | exact HB.out | apply below_alloc | apply pw_below_drewN | apply below_drew1 | refine below_set ?_ GE146.out) | exact HB.out))) : w.heap.size ≤ gb148)); have n5_ := Aside0.mk ((ne_lt hg (pk BK146) : gb146 ≠ gb148)); have n6_ := Aside0.mk ((ne_gt hg (pk BK146) : gb148 ≠ gb146)); clear BK146; clear HB; have BK146 := n0_; have HB := n1_; have BK148 := n2_; have GW148 := n3_; have GE148 := n4_; have NB146_148 := n5_; have NB148_146 := n6_; clear n0_ n1_ n2_ n3_ n4_ n5_ n6_; clear hb hbox hg; have hnb10 := NB148_146.out; have hnc10 := NB146_148.out; have hcz11_0 : w9.cell? ⟨gb148, 0, none⟩ = some (.string (⟨#[]⟩ : ByteArray)) := bc BK148 0; have hcz11_1 : w9.cell? ⟨gb148, 1, none⟩ = some (.int .i64 0) := bc BK148 1; have hfz11_0 := blk_frozen BK148.out 0; have hfz11_1 := blk_frozen BK148.out 1))
          go_ret
          exact ⟨by first | rfl | (simp [errW_none, errW_some] <;> rfl) | (simp [*, errW_none, errW_some] <;> rfl), by repeat (first | (with_reducible first | exact HB.out | apply below_alloc | apply pw_below_drewN | apply below_drew1 | refine below_set ?_ GE146.out | refine below_set ?_ GE148.out) | exact HB.out)⟩
        · rw [if_neg c8] at H
          have c8b0 : decide (x1_1 < ((rd_T32 l0_0 x14_1).f1)) = false := decide_eq_false c8
          clear c8
          have H' := Aside0.mk H
          clear H
          have p147 : 0 ≤ (x14_1 : Int) := of_decide_eq_true (by first | (with_reducible assumption) | assumption)
          have q147 : x14_1 < (l0_0.length : Int) := of_decide_eq_true (by first | (with_reducible assumption) | assumption)
          obtain ⟨ad147, e147, hx147_0, hx147_1⟩ := at_T32 HR0_0.out x14_1 p147 q147
          cases e147
          replace hx147_0 := (HB.out.cell (World.block_lt_of_cell? w _ hx147_0)).trans hx147_0
          replace hx147_1 := (HB.out.cell (World.block_lt_of_cell? w _ hx147_1)).trans hx147_1
          replace p147 := eq_true p147
          replace q147 := eq_true q147
          go_wp2_with (first | ((with_reducible refine gate_dst (N := 6) rfl ?_); refine box_event ?hg (N := 6) ?hd (cs := #[.string (⟨#[]⟩ : ByteArray), .int .i64 0]) (t := 32) ?hr ?_; (case hd => rfl); (case hg => rfl); (case hr => first | (go_simp; done) | (go_simp; rfl)); intro gb148 hg w12 hbox hb; have n0_ := Aside0.mk (blk_below (g := gb146) (pk BK146) hb); have n1_ := Aside0.mk (below_step (by repeat (first | (with_reducible first | exact HB.out | apply below_alloc | apply pw_below_drewN | apply below_drew1 | refine below_set ?_ GE146.out) | exact HB.out)) hb); have n2_ := Aside0.mk (hbox); have n3_ := Aside0.mk ((by rw [hg]; exact (below_size (by repeat (first | (with_reducible first | exact HB.out | apply below_alloc | apply pw_below_drewN | apply below_drew1 | refine below_set ?_ GE146.out) | exact HB.out))) : w.heap.size ≤ gb148)); have n4_ := Aside0.mk ((by rw [hg]; exact (below_size (by repeat (first | (with_reducible first | exact HB.out | apply below_alloc | apply pw_below_drewN | apply below_drew1 | refine below_set ?_ GE146.out) | exact HB.out))) : w.heap.size ≤ gb148)); have n5_ := Aside0.mk ((ne_lt hg (pk BK146) : gb146 ≠ gb148)); have n6_ := Aside0.mk ((ne_gt hg (pk BK146) : gb148 ≠ gb146)); clear BK146; clear HB; have BK146 := n0_; have HB := n1_; have BK148 := n2_; have GW148 := n3_; have GE148 := n4_; have NB146_148 := n5_; have NB148_146 := n6_; clear n0_ n1_ n2_ n3_ n4_ n5_ n6_; clear hb hbox hg; have hnb13 := NB148_146.out; have hnc13 := NB146_148.out; have hcz14_0 : w12.cell? ⟨gb148, 0, none⟩ = some (.string (⟨#[]⟩ : ByteArray)) := bc BK148 0; have hcz14_1 : w12.cell? ⟨gb148, 1, none⟩ = some (.int .i64 0) := bc BK148 1; have hfz14_0 := blk_frozen BK148.out 0; have hfz14_1 := blk_frozen BK148.out 1))
          go_roundg k1
          case measure => have := HK1.out; omega
          case rel => exact ⟨(wrap64 (x1_1 - ((rd_T32 l0_0 x14_1).f1))), (wrap64 (x14_1 + 1)), (by first | rfl | (simp; done) | (simp [*]; done)), (by first | rfl | (simp; done) | (simp [*]; done)), H', ⟨by have := HK1.out; omega⟩, ⟨by (repeat ((with_reducible repeat (first | refine blk_drewN ?_ _ | refine blk_drew ?_ | refine blk_alloc ?_ _)); with_reducible refine blk_far ?_ NB146_148.out _)); (with_reducible repeat (first | refine blk_drewN ?_ _ | refine blk_drew ?_ | refine blk_alloc ?_ _)); exact BK146.out⟩, ⟨by repeat (first | (with_reducible first | exact HB.out | apply below_alloc | apply pw_below_drewN | apply below_drew1 | refine below_set ?_ GE146.out | refine below_set ?_ GE148.out) | exact HB.out)⟩⟩
      · rw [if_neg c5] at H
        have c5b0 : decide (x14_1 < (l0_0.length : Int)) = false := decide_eq_false c5
        clear c5
        obtain rfl := Option.some.inj H
        go_wp2
        go_ret
        exact ⟨by first | rfl | (simp [errW_none, errW_some] <;> rfl) | (simp [*, errW_none, errW_some] <;> rfl), by repeat (first | (with_reducible first | exact HB.out | apply below_alloc | apply pw_below_drewN | apply below_drew1 | refine below_set ?_ GE146.out) | exact HB.out)⟩

end Go.Proofs.YtckcimahclpdfaaDoor.Ma
