-- Written by a program of this session (wip/tools/myprint.py), in the form of the kit's print. Not trusted: Lean checks it.
import Derived.Test.YtckcimahclpdfaaDoorMax0
import Derived.Test.YtckcimahclpdfaaDoorMax7
import Derived.Test.YtckcimahclpdfaaDoorMax8
import Derived.Test.YtckcimahclpdfaaDoorMax10
import Derived.Test.YtckcimahclpdfaaDoorMax16
import Derived.Test.YtckcimahclpdfaaDoorMax18
namespace Go.Proofs.YtckcimahclpdfaaDoor.Ma
open Go.RowKit Go.Proofs.YtckcimahclpdfaaDoorW.PrintWords Go.Proofs.YtckcimahclpdfaaDoorW.PrintLast Go.Proofs.YtckcimahclpdfaaDoorW.PrintMore
attribute [local go_sem] max2_int min2_int max_two min_two max_three min_three max_four min_four   -- for this text's walks alone
set_option linter.unusedVariables false
set_option linter.unusedSimpArgs false

/-! ### damperlaw5_TableCopy: function 8 -/
def damperlaw5_TableCopy.j0 : Nat → List Int → List Int → ByteArray → List (S32) → List (S35) → List (S32) → List (S35) → Option (Bool)
  | 0, _, _, _, _, _, _, _ => none
  | k + 1, x0, x1, x9, x432000, x432001, x433000, x433001 => (damperlaw5_Make.f k x0 x1).bind fun bt440 => ((damperref5_Same.f k x432000 x432001 bt440.1 bt440.2).bind fun t446 => (if t446 = true then ((table_Same.f k x432000 x432001 x433000 x433001).bind fun t447 => (if t447 = true then (some false) else ((table_Text.f k x432000 x432001).bind fun t448 => (if t448.toList = x9.toList then ((table_Right.f x433000 x433001).bind fun t449 => (some (!t449))) else (some false))))) else (some false)))
def damperlaw5_TableCopy.f (k : Nat) (l0 : List Int) (l1 : List Int) (a2 : Int) : Option (Bool) := (damperlaw5_known.f k).bind fun t418 => (if t418 = true then ((damperlaw5_Make.f k l0 l1).bind fun bt419 => ((damperlaw5_Make.f k l0 l1).bind fun bt425 => ((table_Pick.f k bt419.1 bt419.2 a2).bind fun t433 => ((table_ByTag.f k bt419.1 bt419.2 (⟨#[116, 48]⟩ : ByteArray)).bind fun bt434 => ((table_Right.f bt419.1 bt419.2).bind fun t436 => ((table_Text.f k bt419.1 bt419.2).bind fun t437 => (if 0 < (bt425.1.length : Int) then (damperlaw5_TableCopy.j0 k l0 l1 t437 bt419.1 bt419.2 (bt425.1.set (0 : Int).toNat (⟨(rd_T32 bt425.1 0).f0, wrap64 (((rd_T32 bt425.1 0).f1) + 1)⟩ : S32)) bt425.2) else (none)))))))) else (some false))
theorem damperlaw5_TableCopy.mono_l : ∀ k, (∀ y0 y1 y2 y3 y4 y5 y6, LeO (damperlaw5_TableCopy.j0 k y0 y1 y2 y3 y4 y5 y6) (damperlaw5_TableCopy.j0 (k + 1) y0 y1 y2 y3 y4 y5 y6))
  | 0 => fun _ _ _ _ _ _ _ r h => by simp [damperlaw5_TableCopy.j0] at h
  | k + 1 => by
    have ih0 := damperlaw5_TableCopy.mono_l k
    · intro y0 y1 y2 y3 y4 y5 y6
      unfold damperlaw5_TableCopy.j0
      repeat' first
      | (with_reducible exact ih0 _ _ _ _ _ _ _)
      | (with_reducible exact damperlaw5_Make.mono _ _ _)
      | (with_reducible exact damperlaw5_known.mono _)
      | (with_reducible exact damperref5_Same.mono _ _ _ _ _)
      | (with_reducible exact table_ByTag.mono _ _ _ _)
      | (with_reducible exact table_Pick.mono _ _ _ _)
      | (with_reducible exact table_Same.mono _ _ _ _ _)
      | (with_reducible exact table_Text.mono _ _ _)
      | (with_reducible exact LeO.refl _)
      | (with_reducible exact LeO.none _)
      | (with_reducible refine LeO.ite ?_ ?_)
      | (with_reducible refine LeO.bind ?_ (fun _ => ?_))
      | exact ih0 _ _ _ _ _ _ _
      | exact damperlaw5_Make.mono _ _ _
      | exact damperlaw5_known.mono _
      | exact damperref5_Same.mono _ _ _ _ _
      | exact table_ByTag.mono _ _ _ _
      | exact table_Pick.mono _ _ _ _
      | exact table_Same.mono _ _ _ _ _
      | exact table_Text.mono _ _ _
      | exact LeO.none _
      | refine LeO.ite ?_ ?_
      | refine LeO.bind ?_ (fun _ => ?_)
theorem damperlaw5_TableCopy.mono : ∀ a0 a1 a2 k, LeO (damperlaw5_TableCopy.f k a0 a1 a2) (damperlaw5_TableCopy.f (k + 1) a0 a1 a2) := by
  intro a0 a1 a2 k
  have ih0 := damperlaw5_TableCopy.mono_l k
  unfold damperlaw5_TableCopy.f
  repeat' first
      | (with_reducible exact ih0 _ _ _ _ _ _ _)
      | (with_reducible exact damperlaw5_Make.mono _ _ _)
      | (with_reducible exact damperlaw5_known.mono _)
      | (with_reducible exact damperref5_Same.mono _ _ _ _ _)
      | (with_reducible exact table_ByTag.mono _ _ _ _)
      | (with_reducible exact table_Pick.mono _ _ _ _)
      | (with_reducible exact table_Same.mono _ _ _ _ _)
      | (with_reducible exact table_Text.mono _ _ _)
      | (with_reducible exact LeO.refl _)
      | (with_reducible exact LeO.none _)
      | (with_reducible refine LeO.ite ?_ ?_)
      | (with_reducible refine LeO.bind ?_ (fun _ => ?_))
      | exact ih0 _ _ _ _ _ _ _
      | exact damperlaw5_Make.mono _ _ _
      | exact damperlaw5_known.mono _
      | exact damperref5_Same.mono _ _ _ _ _
      | exact table_ByTag.mono _ _ _ _
      | exact table_Pick.mono _ _ _ _
      | exact table_Same.mono _ _ _ _ _
      | exact table_Text.mono _ _ _
      | exact LeO.none _
      | refine LeO.ite ?_ ?_
      | refine LeO.bind ?_ (fun _ => ?_)
def damperlaw5_TableCopy.T9 : Bool × List (List Nat × List Nat) := (true, [([], []), ([], []), ([], []), ([1, 2], [1, 2]), ([0, 3, 3], [0, 3]), ([4, 4], [4]), ([5], [5]), ([5], [5]), ([6, 7, 5, 5], [5, 6, 7]), ([8, 5], [5, 8]), ([5, 9], [5, 9]), ([10, 8], [10]), ([11], [11]), ([12, 11, 11], [11, 12]), ([11], [11]), ([13, 14, 11], [11, 13, 14]), ([11, 15], [11, 15]), ([16, 13], [16]), ([17], [17]), ([18, 17, 17], [17, 18]), ([19, 17], [17, 19]), ([17, 20], [17, 20]), ([21, 19, 0, 1, 2, 3, 4, 5, 6, 7, 8, 9, 10, 11, 12, 13, 14, 15, 16, 17, 18, 19, 20, 21], [21])])
def damperlaw5_TableCopy.B9 : List Nat := [0, 0, 0, 6, 15, 31, 63, 63, 255, 511, 1023, 2047, 4095, 8191, 4095, 32767, 65535, 131071, 262143, 524287, 1048575, 2097151, 4194303]
theorem damperlaw5_TableCopy.tab9 : rtab .any (opsOf Tryd.f8 9) = damperlaw5_TableCopy.T9 := by kernel_rfl
theorem damperlaw5_TableCopy.bits9 : waitsOk damperlaw5_TableCopy.T9.2 damperlaw5_TableCopy.B9 = true := by kernel_rfl
set_option maxHeartbeats 8000000 in
set_option maxRecDepth 100000 in
theorem damperlaw5_TableCopy.calls (k : Nat) (A0 : Option Addr) (c0 : Nat) (l0 : List Int) (A1 : Option Addr) (c1 : Nat) (l1 : List Int) (a2 : Int) (r : Bool) (w : World) (hLd_ : Aside0 (LaidW w)) (hr0 : Kd.C (Kd.int .i64) w A0 l0.length l0) (hc0 : l0.length ≤ c0) (hr1 : Kd.C (Kd.int .i64) w A1 l1.length l1) (hc1 : l1.length ≤ c1) (hr0_ : Aside0 (r = true)) (h : damperlaw5_TableCopy.f k l0 l1 a2 = some r) :
    Calls Tryd.prog 8 #[.slice A0 l0.length c0, .slice A1 l1.length c1, .int .i64 a2] w fun e w' => e = .returned (.bool r) ∧ Below w.heap.size w w' := by
  have hu25 := Tryd.underlying25
  have HR0 := Aside0.mk hr0
  have HC0 := Aside0.mk hc0
  clear hr0 hc0
  have HR1 := Aside0.mk hr1
  have HC1 := Aside0.mk hc1
  clear hr1 hc1
  have HB := Aside0.mk (Below.refl w.heap.size w)
  have H : ((damperlaw5_known.f k).bind fun t418 => (if t418 = true then ((damperlaw5_Make.f k l0 l1).bind fun bt419 => ((damperlaw5_Make.f k l0 l1).bind fun bt425 => ((table_Pick.f k bt419.1 bt419.2 a2).bind fun t433 => ((table_ByTag.f k bt419.1 bt419.2 (⟨#[116, 48]⟩ : ByteArray)).bind fun bt434 => ((table_Right.f bt419.1 bt419.2).bind fun t436 => ((table_Text.f k bt419.1 bt419.2).bind fun t437 => (if 0 < (bt425.1.length : Int) then (damperlaw5_TableCopy.j0 k l0 l1 t437 bt419.1 bt419.2 (bt425.1.set (0 : Int).toNat (⟨(rd_T32 bt425.1 0).f0, wrap64 (((rd_T32 bt425.1 0).f1) + 1)⟩ : S32)) bt425.2) else (none)))))))) else (some false))) = some r := h
  clear h
  replace H := Option.bind_eq_some_iff.mp H
  obtain ⟨t418, A40, H⟩ := H
  replace H : (if t418 = true then ((damperlaw5_Make.f k l0 l1).bind fun bt419 => ((damperlaw5_Make.f k l0 l1).bind fun bt425 => ((table_Pick.f k bt419.1 bt419.2 a2).bind fun t433 => ((table_ByTag.f k bt419.1 bt419.2 (⟨#[116, 48]⟩ : ByteArray)).bind fun bt434 => ((table_Right.f bt419.1 bt419.2).bind fun t436 => ((table_Text.f k bt419.1 bt419.2).bind fun t437 => (if 0 < (bt425.1.length : Int) then (damperlaw5_TableCopy.j0 k l0 l1 t437 bt419.1 bt419.2 (bt425.1.set (0 : Int).toNat (⟨(rd_T32 bt425.1 0).f0, wrap64 (((rd_T32 bt425.1 0).f1) + 1)⟩ : S32)) bt425.2) else (none)))))))) else (some false)) = some r := H
  have A4 := Aside0.mk A40
  clear A40
  by_cases c5 : t418 = true
  · subst c5
    have H1 : ((damperlaw5_Make.f k l0 l1).bind fun bt419 => ((damperlaw5_Make.f k l0 l1).bind fun bt425 => ((table_Pick.f k bt419.1 bt419.2 a2).bind fun t433 => ((table_ByTag.f k bt419.1 bt419.2 (⟨#[116, 48]⟩ : ByteArray)).bind fun bt434 => ((table_Right.f bt419.1 bt419.2).bind fun t436 => ((table_Text.f k bt419.1 bt419.2).bind fun t437 => (if 0 < (bt425.1.length : Int) then (damperlaw5_TableCopy.j0 k l0 l1 t437 bt419.1 bt419.2 (bt425.1.set (0 : Int).toNat (⟨(rd_T32 bt425.1 0).f0, wrap64 (((rd_T32 bt425.1 0).f1) + 1)⟩ : S32)) bt425.2) else (none)))))))) = some r := by rw [if_pos rfl] at H; exact H
    clear H
    have H := H1
    clear H1
    replace H := Option.bind_eq_some_iff.mp H
    obtain ⟨⟨t419, t422⟩, A60, H⟩ := H
    replace H : ((damperlaw5_Make.f k l0 l1).bind fun bt425 => ((table_Pick.f k t419 t422 a2).bind fun t433 => ((table_ByTag.f k t419 t422 (⟨#[116, 48]⟩ : ByteArray)).bind fun bt434 => ((table_Right.f t419 t422).bind fun t436 => ((table_Text.f k t419 t422).bind fun t437 => (if 0 < (bt425.1.length : Int) then (damperlaw5_TableCopy.j0 k l0 l1 t437 t419 t422 (bt425.1.set (0 : Int).toNat (⟨(rd_T32 bt425.1 0).f0, wrap64 (((rd_T32 bt425.1 0).f1) + 1)⟩ : S32)) bt425.2) else (none))))))) = some r := H
    have A6 := Aside0.mk A60
    clear A60
    replace H := Option.bind_eq_some_iff.mp H
    obtain ⟨⟨t425, t428⟩, A70, H⟩ := H
    replace H : ((table_Pick.f k t419 t422 a2).bind fun t433 => ((table_ByTag.f k t419 t422 (⟨#[116, 48]⟩ : ByteArray)).bind fun bt434 => ((table_Right.f t419 t422).bind fun t436 => ((table_Text.f k t419 t422).bind fun t437 => (if 0 < (t425.length : Int) then (damperlaw5_TableCopy.j0 k l0 l1 t437 t419 t422 (t425.set (0 : Int).toNat (⟨(rd_T32 t425 0).f0, wrap64 (((rd_T32 t425 0).f1) + 1)⟩ : S32)) t428) else (none)))))) = some r := H
    have A7 := Aside0.mk A70
    clear A70
    replace H := Option.bind_eq_some_iff.mp H
    obtain ⟨t433, A80, H⟩ := H
    replace H : ((table_ByTag.f k t419 t422 (⟨#[116, 48]⟩ : ByteArray)).bind fun bt434 => ((table_Right.f t419 t422).bind fun t436 => ((table_Text.f k t419 t422).bind fun t437 => (if 0 < (t425.length : Int) then (damperlaw5_TableCopy.j0 k l0 l1 t437 t419 t422 (t425.set (0 : Int).toNat (⟨(rd_T32 t425 0).f0, wrap64 (((rd_T32 t425 0).f1) + 1)⟩ : S32)) t428) else (none))))) = some r := H
    have A8 := Aside0.mk A80
    clear A80
    replace H := Option.bind_eq_some_iff.mp H
    obtain ⟨⟨t434, t435⟩, A90, H⟩ := H
    replace H : ((table_Right.f t419 t422).bind fun t436 => ((table_Text.f k t419 t422).bind fun t437 => (if 0 < (t425.length : Int) then (damperlaw5_TableCopy.j0 k l0 l1 t437 t419 t422 (t425.set (0 : Int).toNat (⟨(rd_T32 t425 0).f0, wrap64 (((rd_T32 t425 0).f1) + 1)⟩ : S32)) t428) else (none)))) = some r := H
    have A9 := Aside0.mk A90
    clear A90
    replace H := Option.bind_eq_some_iff.mp H
    obtain ⟨t436, A100, H⟩ := H
    replace H : ((table_Text.f k t419 t422).bind fun t437 => (if 0 < (t425.length : Int) then (damperlaw5_TableCopy.j0 k l0 l1 t437 t419 t422 (t425.set (0 : Int).toNat (⟨(rd_T32 t425 0).f0, wrap64 (((rd_T32 t425 0).f1) + 1)⟩ : S32)) t428) else (none))) = some r := H
    have A10 := Aside0.mk A100
    clear A100
    replace H := Option.bind_eq_some_iff.mp H
    obtain ⟨t437, A110, H⟩ := H
    replace H : (if 0 < (t425.length : Int) then (damperlaw5_TableCopy.j0 k l0 l1 t437 t419 t422 (t425.set (0 : Int).toNat (⟨(rd_T32 t425 0).f0, wrap64 (((rd_T32 t425 0).f1) + 1)⟩ : S32)) t428) else (none)) = some r := H
    have A11 := Aside0.mk A110
    clear A110
    have HC12 := Aside0.mk H
    clear H
    go_enter Tryd.func8, Tryd.ntmps8
    go_upto_region 8 with (first | ((with_reducible refine gate_callee (f := 9) rfl ?_); refine goesL_ (some 10) rfl rfl Tryd.func9 (by kernel_rfl) rfl #[] rfl (by (try simp only [List.map_toArray, List.map_cons, List.map_nil]); first | done | rfl | (simp only [List.length_drop, List.length_take]; rfl)) ?_; (with_reducible refine (damperlaw5_known.calls k  true _ ?side1 A4.out).mono ?_); (case side1 => first | exact hLd_.out | exact hLd_ | exact ⟨LaidW.below hLd_.out (by repeat (first | (with_reducible first | exact HB.out | apply below_alloc | apply pw_below_drewN | apply below_drew1) | exact HB.out))⟩ | exact ⟨LaidW.below hLd_.out (by repeat (first | exact Below.refl _ _ | apply below_alloc | apply pw_below_drewN | apply below_drew1))⟩); rintro e w13 ⟨rfl, hb⟩; refine ⟨_, rfl, ?_⟩; have n0_ := Aside0.mk (below_step (by repeat (first | (with_reducible first | exact HB.out | apply below_alloc | apply pw_below_drewN | apply below_drew1) | exact HB.out)) hb); clear HB; have HB := n0_; clear n0_; (try clear hb); (try clear hb2); (try clear hk); (try clear hi)) | ((with_reducible refine gate_callee (f := 11) rfl ?_); refine goesL_ (some 14) rfl rfl Tryd.func11 (by kernel_rfl) rfl #[.slice A0 l0.length c0, .slice A1 l1.length c1] rfl (by (try simp only [List.map_toArray, List.map_cons, List.map_nil]); first | done | rfl | (simp only [List.length_drop, List.length_take]; rfl)) ?_; (with_reducible refine (damperlaw5_Make.calls k _ _ l0 _ _ l1 t419 t422 _ ?side1 ?side2 ?side3 ?side4 A6.out).mono ?_); (case side1 => repeat (first | exact (Kd.C_below HR0.out HB.out) | (with_reducible refine Kd.C_alloc ?_ _) | (with_reducible refine Kd.C_drewN ?_ _) | (with_reducible refine Kd.C_drew ?_))); (case side2 => exact HC0.out); (case side3 => repeat (first | exact (Kd.C_below HR1.out HB.out) | (with_reducible refine Kd.C_alloc ?_ _) | (with_reducible refine Kd.C_drewN ?_ _) | (with_reducible refine Kd.C_drew ?_))); (case side4 => exact HC1.out); rintro e w14 ⟨v420, v423, rfl, ho0, ho1, hb⟩; refine ⟨_, rfl, ?_⟩; have n0_ := Aside0.mk (Kd.R_lower ho0 (below_size (by repeat (first | (with_reducible first | exact HB.out | apply below_alloc | apply pw_below_drewN | apply below_drew1) | exact HB.out)))); have n1_ := Aside0.mk (Kd.R_lower ho1 (below_size (by repeat (first | (with_reducible first | exact HB.out | apply below_alloc | apply pw_below_drewN | apply below_drew1) | exact HB.out)))); have n2_ := Aside0.mk (below_step (by repeat (first | (with_reducible first | exact HB.out | apply below_alloc | apply pw_below_drewN | apply below_drew1) | exact HB.out)) hb); clear HB; have HO421 := n0_; have HO424 := n1_; have HB := n2_; clear n0_ n1_ n2_; (try clear hb); (try clear hb2); (try clear hk); (try clear hi); (try clear ho0); (try clear ho1)) | ((with_reducible refine gate_callee (f := 11) rfl ?_); refine goesL_ (some 17) rfl rfl Tryd.func11 (by kernel_rfl) rfl #[.slice A0 l0.length c0, .slice A1 l1.length c1] rfl (by (try simp only [List.map_toArray, List.map_cons, List.map_nil]); first | done | rfl | (simp only [List.length_drop, List.length_take]; rfl)) ?_; (with_reducible refine (damperlaw5_Make.calls k _ _ l0 _ _ l1 t425 t428 _ ?side1 ?side2 ?side3 ?side4 A7.out).mono ?_); (case side1 => repeat (first | exact (Kd.C_below HR0.out HB.out) | (with_reducible refine Kd.C_alloc ?_ _) | (with_reducible refine Kd.C_drewN ?_ _) | (with_reducible refine Kd.C_drew ?_))); (case side2 => exact HC0.out); (case side3 => repeat (first | exact (Kd.C_below HR1.out HB.out) | (with_reducible refine Kd.C_alloc ?_ _) | (with_reducible refine Kd.C_drewN ?_ _) | (with_reducible refine Kd.C_drew ?_))); (case side4 => exact HC1.out); rintro e w15 ⟨v426, v429, rfl, ho0, ho1, hb⟩; refine ⟨_, rfl, ?_⟩; have n0_ := Aside0.mk (Kd.R_elder' (by (with_reducible repeat (first | apply Kd.R_alloc | apply Kd.R_drewN | apply Kd.R_drew)); exact HO421.out) (Kd.R_base ho0) hb); have n1_ := Aside0.mk (Kd.R_elder' (by (with_reducible repeat (first | apply Kd.R_alloc | apply Kd.R_drewN | apply Kd.R_drew)); exact HO424.out) (Kd.R_base ho1) hb); have n2_ := Aside0.mk (Kd.R_lower (Kd.R_new' ho0 (Kd.R_lt (by (with_reducible repeat (first | apply Kd.R_alloc | apply Kd.R_drewN | apply Kd.R_drew)); exact HO421.out))) (below_size (by repeat (first | (with_reducible first | exact HB.out | apply below_alloc | apply pw_below_drewN | apply below_drew1) | exact HB.out)))); have n3_ := Aside0.mk (Kd.R_lower (Kd.R_new' ho1 (Kd.R_lt (by (with_reducible repeat (first | apply Kd.R_alloc | apply Kd.R_drewN | apply Kd.R_drew)); exact HO424.out))) (below_size (by repeat (first | (with_reducible first | exact HB.out | apply below_alloc | apply pw_below_drewN | apply below_drew1) | exact HB.out)))); have n4_ := Aside0.mk (below_step (by repeat (first | (with_reducible first | exact HB.out | apply below_alloc | apply pw_below_drewN | apply below_drew1) | exact HB.out)) hb); clear HO421; clear HO424; clear HB; have HO421 := n0_; have HO424 := n1_; have HO427 := n2_; have HO430 := n3_; have HB := n4_; clear n0_ n1_ n2_ n3_ n4_; (try clear hb); (try clear hb2); (try clear hk); (try clear hi); (try clear ho0); (try clear ho1)) | ((with_reducible refine gate_dst (N := 7) rfl ?_); refine box_event ?hg (N := 7) ?hd (cs := #[.slice none 0 0, .slice none 0 0]) (t := 25) ?hr ?_; (case hd => rfl); (case hg => rfl); (case hr => first | (go_simp; done) | (go_simp; rfl)); intro gb431 hg w16 hbox hb; have n0_ := Aside0.mk (Kd.R_below (by (with_reducible repeat (first | apply Kd.R_alloc | apply Kd.R_drewN | apply Kd.R_drew)); exact HO421.out) hb); have n1_ := Aside0.mk (Kd.R_below (by (with_reducible repeat (first | apply Kd.R_alloc | apply Kd.R_drewN | apply Kd.R_drew)); exact HO424.out) hb); have n2_ := Aside0.mk (Kd.R_below (by (with_reducible repeat (first | apply Kd.R_alloc | apply Kd.R_drewN | apply Kd.R_drew)); exact HO427.out) hb); have n3_ := Aside0.mk (Kd.R_below (by (with_reducible repeat (first | apply Kd.R_alloc | apply Kd.R_drewN | apply Kd.R_drew)); exact HO430.out) hb); have n4_ := Aside0.mk (below_step (by repeat (first | (with_reducible first | exact HB.out | apply below_alloc | apply pw_below_drewN | apply below_drew1) | exact HB.out)) hb); have n5_ := Aside0.mk (hbox); have n6_ := Aside0.mk ((by rw [hg]; exact (below_size (by repeat (first | (with_reducible first | exact HB.out | apply below_alloc | apply pw_below_drewN | apply below_drew1) | exact HB.out))) : w.heap.size ≤ gb431)); have n7_ := Aside0.mk ((by rw [hg]; exact (below_size (by repeat (first | (with_reducible first | exact HB.out | apply below_alloc | apply pw_below_drewN | apply below_drew1) | exact HB.out))) : w.heap.size ≤ gb431)); clear HO421; clear HO424; clear HO427; clear HO430; clear HB; have HO421 := n0_; have HO424 := n1_; have HO427 := n2_; have HO430 := n3_; have HB := n4_; have BK431 := n5_; have GW431 := n6_; have GE431 := n7_; clear n0_ n1_ n2_ n3_ n4_ n5_ n6_ n7_; clear hb hbox hg) | ((with_reducible refine gate_dst (N := 8) rfl ?_); refine box_event ?hg (N := 8) ?hd (cs := #[.slice none 0 0, .slice none 0 0]) (t := 25) ?hr ?_; (case hd => rfl); (case hg => rfl); (case hr => first | (go_simp; done) | (go_simp; rfl)); intro gb432 hg w17 hbox hb; have n0_ := Aside0.mk (Kd.R_below (by (with_reducible repeat (first | apply Kd.R_alloc | apply Kd.R_drewN | apply Kd.R_drew)); exact HO421.out) hb); have n1_ := Aside0.mk (Kd.R_below (by (with_reducible repeat (first | apply Kd.R_alloc | apply Kd.R_drewN | apply Kd.R_drew)); exact HO424.out) hb); have n2_ := Aside0.mk (Kd.R_below (by (with_reducible repeat (first | apply Kd.R_alloc | apply Kd.R_drewN | apply Kd.R_drew)); exact HO427.out) hb); have n3_ := Aside0.mk (Kd.R_below (by (with_reducible repeat (first | apply Kd.R_alloc | apply Kd.R_drewN | apply Kd.R_drew)); exact HO430.out) hb); have n4_ := Aside0.mk (blk_below (g := gb431) (pk BK431) hb); have n5_ := Aside0.mk (below_step (by repeat (first | (with_reducible first | exact HB.out | apply below_alloc | apply pw_below_drewN | apply below_drew1 | refine below_set ?_ GE431.out) | exact HB.out)) hb); have n6_ := Aside0.mk (hbox); have n7_ := Aside0.mk ((by rw [hg]; exact (below_size (by repeat (first | (with_reducible first | exact HB.out | apply below_alloc | apply pw_below_drewN | apply below_drew1 | refine below_set ?_ GE431.out) | exact HB.out))) : w.heap.size ≤ gb432)); have n8_ := Aside0.mk ((by rw [hg]; exact (below_size (by repeat (first | (with_reducible first | exact HB.out | apply below_alloc | apply pw_below_drewN | apply below_drew1 | refine below_set ?_ GE431.out) | exact HB.out))) : w.heap.size ≤ gb432)); have n9_ := Aside0.mk ((ne_lt hg (pk BK431) : gb431 ≠ gb432)); have n10_ := Aside0.mk ((ne_gt hg (pk BK431) : gb432 ≠ gb431)); clear HO421; clear HO424; clear HO427; clear HO430; clear BK431; clear HB; have HO421 := n0_; have HO424 := n1_; have HO427 := n2_; have HO430 := n3_; have BK431 := n4_; have HB := n5_; have BK432 := n6_; have GW432 := n7_; have GE432 := n8_; have NB431_432 := n9_; have NB432_431 := n10_; clear n0_ n1_ n2_ n3_ n4_ n5_ n6_ n7_ n8_ n9_ n10_; clear hb hbox hg; obtain ⟨Ao18, co18, eo18⟩ := Kd.R_slice HO421.out; subst eo18; have hnb19 := NB431_432.out; have hnc19 := NB432_431.out; have hcz20_0 : w17.cell? ⟨gb431, 0, none⟩ = some (.slice none 0 0) := bc BK431 0; have hcz20_1 : w17.cell? ⟨gb431, 1, none⟩ = some (.slice none 0 0) := bc BK431 1; have hfz20_0 := blk_frozen BK431.out 0; have hfz20_1 := blk_frozen BK431.out 1; obtain ⟨Ao21, co21, eo21⟩ := Kd.R_slice HO424.out; subst eo21; obtain ⟨Ao22, co22, eo22⟩ := Kd.R_slice HO427.out; subst eo22; have hcz23_0 : w17.cell? ⟨gb432, 0, none⟩ = some (.slice none 0 0) := bc BK432 0; have hcz23_1 : w17.cell? ⟨gb432, 1, none⟩ = some (.slice none 0 0) := bc BK432 1; have hfz23_0 := blk_frozen BK432.out 0; have hfz23_1 := blk_frozen BK432.out 1; obtain ⟨Ao24, co24, eo24⟩ := Kd.R_slice HO430.out; subst eo24) | ((with_reducible refine gate_callee (f := 16) rfl ?_); refine goesL_ (some 20) rfl rfl Tryd.func16 (by kernel_rfl) rfl #[.agg #[.slice Ao18 t419.length co18, .slice Ao21 t422.length co21], .int .i64 a2] rfl (by (try simp only [List.map_toArray, List.map_cons, List.map_nil]); first | done | rfl | (simp only [List.length_drop, List.length_take]; rfl)) ?_; (with_reducible refine (table_Pick.calls k _ _ t419 _ _ t422 a2 t433 _ ?side1 ?side2 ?side3 ?side4 A8.out).mono ?_); (case side1 => refine (Kd.R_reads' (e := 32) (base := w.heap.size) (ok := fun k_ => (True ∧ some k_ ≠ (.slice Ao22 t425.length co22 : Value).ownBlock)) (n := t419.length) (c := co18) ?_).2.2; exact (by (with_reducible repeat (first | apply Kd.R_alloc | apply Kd.R_drewN | apply Kd.R_drew)); exact (Kd.R_mono (Kd.R_mono (Kd.R_far (p := ⟨gb432, 1, none⟩) (Kd.R_far (p := ⟨gb432, 0, none⟩) (Kd.R_far (p := ⟨gb431, 1, none⟩) (Kd.R_far (p := ⟨gb431, 0, none⟩) (Kd.R_types (Kd.R_types HO421.out BK431.out (by decide)) BK432.out (by decide)) (fun _ hk => hk.1.2) (.slice Ao18 t419.length co18)) (fun _ hk => hk.1.2) (.slice Ao21 t422.length co21)) (fun _ hk => hk.2) (.slice Ao22 t425.length co22)) (fun _ hk => hk.2) (.slice Ao24 t428.length co24)) (fun _ h_ => h_.1)) (fun _ h_ => h_.1)))); (case side2 => exact (Kd.R_reads' HO421.out).2.1); (case side3 => refine (Kd.R_reads' (e := 35) (base := w.heap.size) (ok := fun k_ => (True ∧ some k_ ≠ (.slice Ao24 t428.length co24 : Value).ownBlock)) (n := t422.length) (c := co21) ?_).2.2; exact (by (with_reducible repeat (first | apply Kd.R_alloc | apply Kd.R_drewN | apply Kd.R_drew)); exact (Kd.R_mono (Kd.R_mono (Kd.R_far (p := ⟨gb432, 1, none⟩) (Kd.R_far (p := ⟨gb432, 0, none⟩) (Kd.R_far (p := ⟨gb431, 1, none⟩) (Kd.R_far (p := ⟨gb431, 0, none⟩) (Kd.R_types (Kd.R_types HO424.out BK431.out (by decide)) BK432.out (by decide)) (fun _ hk => hk.1.2) (.slice Ao18 t419.length co18)) (fun _ hk => hk.1.2) (.slice Ao21 t422.length co21)) (fun _ hk => hk.2) (.slice Ao22 t425.length co22)) (fun _ hk => hk.2) (.slice Ao24 t428.length co24)) (fun _ h_ => h_.1)) (fun _ h_ => h_.1)))); (case side4 => exact (Kd.R_reads' HO424.out).2.1); rintro e w25 ⟨rfl, hb⟩; refine ⟨_, rfl, ?_⟩; have n0_ := Aside0.mk (Kd.R_below (by (with_reducible repeat (first | apply Kd.R_alloc | apply Kd.R_drewN | apply Kd.R_drew)); exact (Kd.R_mono (Kd.R_mono (Kd.R_far (p := ⟨gb432, 1, none⟩) (Kd.R_far (p := ⟨gb432, 0, none⟩) (Kd.R_far (p := ⟨gb431, 1, none⟩) (Kd.R_far (p := ⟨gb431, 0, none⟩) (Kd.R_types (Kd.R_types HO421.out BK431.out (by decide)) BK432.out (by decide)) (fun _ hk => hk.1.2) (.slice Ao18 t419.length co18)) (fun _ hk => hk.1.2) (.slice Ao21 t422.length co21)) (fun _ hk => hk.2) (.slice Ao22 t425.length co22)) (fun _ hk => hk.2) (.slice Ao24 t428.length co24)) (fun _ h_ => h_.1)) (fun _ h_ => h_.1))) hb); have n1_ := Aside0.mk (Kd.R_below (by (with_reducible repeat (first | apply Kd.R_alloc | apply Kd.R_drewN | apply Kd.R_drew)); exact (Kd.R_mono (Kd.R_mono (Kd.R_far (p := ⟨gb432, 1, none⟩) (Kd.R_far (p := ⟨gb432, 0, none⟩) (Kd.R_far (p := ⟨gb431, 1, none⟩) (Kd.R_far (p := ⟨gb431, 0, none⟩) (Kd.R_types (Kd.R_types HO424.out BK431.out (by decide)) BK432.out (by decide)) (fun _ hk => hk.1.2) (.slice Ao18 t419.length co18)) (fun _ hk => hk.1.2) (.slice Ao21 t422.length co21)) (fun _ hk => hk.2) (.slice Ao22 t425.length co22)) (fun _ hk => hk.2) (.slice Ao24 t428.length co24)) (fun _ h_ => h_.1)) (fun _ h_ => h_.1))) hb); have n2_ := Aside0.mk (Kd.R_below (by (with_reducible repeat (first | apply Kd.R_alloc | apply Kd.R_drewN | apply Kd.R_drew)); exact (Kd.R_mono (Kd.R_mono (Kd.R_far (p := ⟨gb432, 1, none⟩) (Kd.R_far (p := ⟨gb432, 0, none⟩) (Kd.R_far (p := ⟨gb431, 1, none⟩) (Kd.R_far (p := ⟨gb431, 0, none⟩) (Kd.R_types (Kd.R_types HO427.out BK431.out (by decide)) BK432.out (by decide)) (fun _ hk => hk.1.2) (.slice Ao18 t419.length co18)) (fun _ hk => hk.1.2) (.slice Ao21 t422.length co21)) (fun _ hk => hk.2) (.slice Ao22 t425.length co22)) (fun _ hk => hk.2) (.slice Ao24 t428.length co24)) (fun _ h_ => h_.1)) (fun _ h_ => h_.1))) hb); have n3_ := Aside0.mk (Kd.R_below (by (with_reducible repeat (first | apply Kd.R_alloc | apply Kd.R_drewN | apply Kd.R_drew)); exact (Kd.R_mono (Kd.R_mono (Kd.R_far (p := ⟨gb432, 1, none⟩) (Kd.R_far (p := ⟨gb432, 0, none⟩) (Kd.R_far (p := ⟨gb431, 1, none⟩) (Kd.R_far (p := ⟨gb431, 0, none⟩) (Kd.R_types (Kd.R_types HO430.out BK431.out (by decide)) BK432.out (by decide)) (fun _ hk => hk.1.2) (.slice Ao18 t419.length co18)) (fun _ hk => hk.1.2) (.slice Ao21 t422.length co21)) (fun _ hk => hk.2) (.slice Ao22 t425.length co22)) (fun _ hk => hk.2) (.slice Ao24 t428.length co24)) (fun _ h_ => h_.1)) (fun _ h_ => h_.1))) hb); have n4_ := Aside0.mk (blk_below (g := gb431) (o := .cells #[.slice Ao18 t419.length co18, .slice Ao21 t422.length co21] 25 (0, 0)) (by (repeat ((with_reducible repeat (first | refine blk_drewN ?_ _ | refine blk_drew ?_ | refine blk_alloc ?_ _)); with_reducible refine blk_far ?_ NB431_432.out _)); (with_reducible repeat (first | refine blk_drewN ?_ _ | refine blk_drew ?_ | refine blk_alloc ?_ _)); refine blk_put (cs := #[.slice Ao18 t419.length co18, .slice none 0 0]) ?_ 1 _ rfl; (with_reducible repeat (first | refine blk_drewN ?_ _ | refine blk_drew ?_ | refine blk_alloc ?_ _)); refine blk_put (cs := #[.slice none 0 0, .slice none 0 0]) ?_ 0 _ rfl; (with_reducible repeat (first | refine blk_drewN ?_ _ | refine blk_drew ?_ | refine blk_alloc ?_ _)); exact BK431.out) hb); have n5_ := Aside0.mk (blk_below (g := gb432) (o := .cells #[.slice Ao22 t425.length co22, .slice Ao24 t428.length co24] 25 (0, 0)) (by (with_reducible repeat (first | refine blk_drewN ?_ _ | refine blk_drew ?_ | refine blk_alloc ?_ _)); refine blk_put (cs := #[.slice Ao22 t425.length co22, .slice none 0 0]) ?_ 1 _ rfl; (with_reducible repeat (first | refine blk_drewN ?_ _ | refine blk_drew ?_ | refine blk_alloc ?_ _)); refine blk_put (cs := #[.slice none 0 0, .slice none 0 0]) ?_ 0 _ rfl; (repeat ((with_reducible repeat (first | refine blk_drewN ?_ _ | refine blk_drew ?_ | refine blk_alloc ?_ _)); with_reducible refine blk_far ?_ NB432_431.out _)); (with_reducible repeat (first | refine blk_drewN ?_ _ | refine blk_drew ?_ | refine blk_alloc ?_ _)); exact BK432.out) hb); have n6_ := Aside0.mk (below_step (by repeat (first | (with_reducible first | exact HB.out | apply below_alloc | apply pw_below_drewN | apply below_drew1 | refine below_set ?_ GE431.out | refine below_set ?_ GE432.out) | exact HB.out)) hb); clear HO421; clear HO424; clear HO427; clear HO430; clear BK431; clear BK432; clear HB; have HO421 := n0_; have HO424 := n1_; have HO427 := n2_; have HO430 := n3_; have BK431 := n4_; have BK432 := n5_; have HB := n6_; clear n0_ n1_ n2_ n3_ n4_ n5_ n6_; (try clear hb); (try clear hb2); (try clear hk); (try clear hi); have hcz26_0 : w25.cell? ⟨gb431, 0, none⟩ = some (.slice Ao18 t419.length co18) := bc BK431 0; have hcz26_1 : w25.cell? ⟨gb431, 1, none⟩ = some (.slice Ao21 t422.length co21) := bc BK431 1; have hfz26_0 := blk_frozen BK431.out 0; have hfz26_1 := blk_frozen BK431.out 1) | ((with_reducible refine gate_callee (f := 20) rfl ?_); refine goesL_ (some 22) rfl rfl Tryd.func20 (by kernel_rfl) rfl #[.agg #[.slice Ao18 t419.length co18, .slice Ao21 t422.length co21], .string (⟨#[116, 48]⟩ : ByteArray)] rfl (by (try simp only [List.map_toArray, List.map_cons, List.map_nil]); first | done | rfl | (simp only [List.length_drop, List.length_take]; rfl)) ?_; (with_reducible refine (table_ByTag.calls k _ _ t419 _ _ t422 (⟨#[116, 48]⟩ : ByteArray) t434 t435 _ ?side1 ?side2 ?side3 ?side4 A9.out).mono ?_); (case side1 => repeat (first | exact (Kd.R_reads' HO421.out).2.2 | (with_reducible refine Kd.C_alloc ?_ _) | (with_reducible refine Kd.C_drewN ?_ _) | (with_reducible refine Kd.C_drew ?_))); (case side2 => exact (Kd.R_reads' HO421.out).2.1); (case side3 => repeat (first | exact (Kd.R_reads' HO424.out).2.2 | (with_reducible refine Kd.C_alloc ?_ _) | (with_reducible refine Kd.C_drewN ?_ _) | (with_reducible refine Kd.C_drew ?_))); (case side4 => exact (Kd.R_reads' HO424.out).2.1); rintro e w27 ⟨rfl, hb⟩; refine ⟨_, rfl, ?_⟩; have n0_ := Aside0.mk (Kd.R_below (by (with_reducible repeat (first | apply Kd.R_alloc | apply Kd.R_drewN | apply Kd.R_drew)); exact HO421.out) hb); have n1_ := Aside0.mk (Kd.R_below (by (with_reducible repeat (first | apply Kd.R_alloc | apply Kd.R_drewN | apply Kd.R_drew)); exact HO424.out) hb); have n2_ := Aside0.mk (Kd.R_below (by (with_reducible repeat (first | apply Kd.R_alloc | apply Kd.R_drewN | apply Kd.R_drew)); exact HO427.out) hb); have n3_ := Aside0.mk (Kd.R_below (by (with_reducible repeat (first | apply Kd.R_alloc | apply Kd.R_drewN | apply Kd.R_drew)); exact HO430.out) hb); have n4_ := Aside0.mk (blk_below (g := gb431) (pk BK431) hb); have n5_ := Aside0.mk (blk_below (g := gb432) (pk BK432) hb); have n6_ := Aside0.mk (below_step (by repeat (first | (with_reducible first | exact HB.out | apply below_alloc | apply pw_below_drewN | apply below_drew1 | refine below_set ?_ GE431.out | refine below_set ?_ GE432.out) | exact HB.out)) hb); clear HO421; clear HO424; clear HO427; clear HO430; clear BK431; clear BK432; clear HB; have HO421 := n0_; have HO424 := n1_; have HO427 := n2_; have HO430 := n3_; have BK431 := n4_; have BK432 := n5_; have HB := n6_; clear n0_ n1_ n2_ n3_ n4_ n5_ n6_; (try clear hb); (try clear hb2); (try clear hk); (try clear hi); have hcz28_0 : w27.cell? ⟨gb431, 0, none⟩ = some (.slice Ao18 t419.length co18) := bc BK431 0; have hcz28_1 : w27.cell? ⟨gb431, 1, none⟩ = some (.slice Ao21 t422.length co21) := bc BK431 1; have hfz28_0 := blk_frozen BK431.out 0; have hfz28_1 := blk_frozen BK431.out 1) | ((with_reducible refine gate_callee (f := 12) rfl ?_); refine goesL_ (some 24) rfl rfl Tryd.func12 (by kernel_rfl) rfl #[.agg #[.slice Ao18 t419.length co18, .slice Ao21 t422.length co21]] rfl (by (try simp only [List.map_toArray, List.map_cons, List.map_nil]); first | done | rfl | (simp only [List.length_drop, List.length_take]; rfl)) ?_; (with_reducible refine (table_Right.calls _ _ t419 _ _ t422 t436 _ ?side5 ?side1 ?side2 ?side3 ?side4 A10.out).mono ?_); (case side1 => repeat (first | exact (Kd.R_reads' HO421.out).2.2 | (with_reducible refine Kd.C_alloc ?_ _) | (with_reducible refine Kd.C_drewN ?_ _) | (with_reducible refine Kd.C_drew ?_))); (case side2 => exact (Kd.R_reads' HO421.out).2.1); (case side3 => repeat (first | exact (Kd.R_reads' HO424.out).2.2 | (with_reducible refine Kd.C_alloc ?_ _) | (with_reducible refine Kd.C_drewN ?_ _) | (with_reducible refine Kd.C_drew ?_))); (case side4 => exact (Kd.R_reads' HO424.out).2.1); (case side5 => first | exact hLd_.out | exact hLd_ | exact ⟨LaidW.below hLd_.out (by repeat (first | (with_reducible first | exact HB.out | apply below_alloc | apply pw_below_drewN | apply below_drew1 | refine below_set ?_ GE431.out | refine below_set ?_ GE432.out) | exact HB.out))⟩ | exact ⟨LaidW.below hLd_.out (by repeat (first | exact Below.refl _ _ | apply below_alloc | apply pw_below_drewN | apply below_drew1))⟩); rintro e w29 ⟨rfl, hb⟩; refine ⟨_, rfl, ?_⟩; have n0_ := Aside0.mk (Kd.R_below (by (with_reducible repeat (first | apply Kd.R_alloc | apply Kd.R_drewN | apply Kd.R_drew)); exact HO421.out) hb); have n1_ := Aside0.mk (Kd.R_below (by (with_reducible repeat (first | apply Kd.R_alloc | apply Kd.R_drewN | apply Kd.R_drew)); exact HO424.out) hb); have n2_ := Aside0.mk (Kd.R_below (by (with_reducible repeat (first | apply Kd.R_alloc | apply Kd.R_drewN | apply Kd.R_drew)); exact HO427.out) hb); have n3_ := Aside0.mk (Kd.R_below (by (with_reducible repeat (first | apply Kd.R_alloc | apply Kd.R_drewN | apply Kd.R_drew)); exact HO430.out) hb); have n4_ := Aside0.mk (blk_below (g := gb431) (pk BK431) hb); have n5_ := Aside0.mk (blk_below (g := gb432) (pk BK432) hb); have n6_ := Aside0.mk (below_step (by repeat (first | (with_reducible first | exact HB.out | apply below_alloc | apply pw_below_drewN | apply below_drew1 | refine below_set ?_ GE431.out | refine below_set ?_ GE432.out) | exact HB.out)) hb); clear HO421; clear HO424; clear HO427; clear HO430; clear BK431; clear BK432; clear HB; have HO421 := n0_; have HO424 := n1_; have HO427 := n2_; have HO430 := n3_; have BK431 := n4_; have BK432 := n5_; have HB := n6_; clear n0_ n1_ n2_ n3_ n4_ n5_ n6_; (try clear hb); (try clear hb2); (try clear hk); (try clear hi); have hcz30_0 : w29.cell? ⟨gb431, 0, none⟩ = some (.slice Ao18 t419.length co18) := bc BK431 0; have hcz30_1 : w29.cell? ⟨gb431, 1, none⟩ = some (.slice Ao21 t422.length co21) := bc BK431 1; have hfz30_0 := blk_frozen BK431.out 0; have hfz30_1 := blk_frozen BK431.out 1) | ((with_reducible refine gate_callee (f := 18) rfl ?_); refine goesL_ (some 26) rfl rfl Tryd.func18 (by kernel_rfl) rfl #[.agg #[.slice Ao18 t419.length co18, .slice Ao21 t422.length co21]] rfl (by (try simp only [List.map_toArray, List.map_cons, List.map_nil]); first | done | rfl | (simp only [List.length_drop, List.length_take]; rfl)) ?_; (with_reducible refine (table_Text.calls k _ _ t419 _ _ t422 t437 _ ?side5 ?side1 ?side2 ?side3 ?side4 A11.out).mono ?_); (case side1 => repeat (first | exact (Kd.R_reads' HO421.out).2.2 | (with_reducible refine Kd.C_alloc ?_ _) | (with_reducible refine Kd.C_drewN ?_ _) | (with_reducible refine Kd.C_drew ?_))); (case side2 => exact (Kd.R_reads' HO421.out).2.1); (case side3 => repeat (first | exact (Kd.R_reads' HO424.out).2.2 | (with_reducible refine Kd.C_alloc ?_ _) | (with_reducible refine Kd.C_drewN ?_ _) | (with_reducible refine Kd.C_drew ?_))); (case side4 => exact (Kd.R_reads' HO424.out).2.1); (case side5 => first | exact hLd_.out | exact hLd_ | exact ⟨LaidW.below hLd_.out (by repeat (first | (with_reducible first | exact HB.out | apply below_alloc | apply pw_below_drewN | apply below_drew1 | refine below_set ?_ GE431.out | refine below_set ?_ GE432.out) | exact HB.out))⟩ | exact ⟨LaidW.below hLd_.out (by repeat (first | exact Below.refl _ _ | apply below_alloc | apply pw_below_drewN | apply below_drew1))⟩); rintro e w31 ⟨rfl, hb⟩; refine ⟨_, rfl, ?_⟩; have n0_ := Aside0.mk (Kd.R_below (by (with_reducible repeat (first | apply Kd.R_alloc | apply Kd.R_drewN | apply Kd.R_drew)); exact HO421.out) hb); have n1_ := Aside0.mk (Kd.R_below (by (with_reducible repeat (first | apply Kd.R_alloc | apply Kd.R_drewN | apply Kd.R_drew)); exact HO424.out) hb); have n2_ := Aside0.mk (Kd.R_below (by (with_reducible repeat (first | apply Kd.R_alloc | apply Kd.R_drewN | apply Kd.R_drew)); exact HO427.out) hb); have n3_ := Aside0.mk (Kd.R_below (by (with_reducible repeat (first | apply Kd.R_alloc | apply Kd.R_drewN | apply Kd.R_drew)); exact HO430.out) hb); have n4_ := Aside0.mk (blk_below (g := gb431) (pk BK431) hb); have n5_ := Aside0.mk (blk_below (g := gb432) (pk BK432) hb); have n6_ := Aside0.mk (below_step (by repeat (first | (with_reducible first | exact HB.out | apply below_alloc | apply pw_below_drewN | apply below_drew1 | refine below_set ?_ GE431.out | refine below_set ?_ GE432.out) | exact HB.out)) hb); clear HO421; clear HO424; clear HO427; clear HO430; clear BK431; clear BK432; clear HB; have HO421 := n0_; have HO424 := n1_; have HO427 := n2_; have HO430 := n3_; have BK431 := n4_; have BK432 := n5_; have HB := n6_; clear n0_ n1_ n2_ n3_ n4_ n5_ n6_; (try clear hb); (try clear hb2); (try clear hk); (try clear hi)))
    (try simp only [Act.put, List.setIfInBounds_toArray, List.set_cons_zero, List.set_cons_succ])
    go_cut [] (fun wc => ∃ (kq : Nat) (x432000_11 : List (S32)) (x433000_11 : List (S32)) (u432000 : Value) (u433000 : Value), Aside0 (damperlaw5_TableCopy.j0 kq l0 l1 t437 x432000_11 t422 x433000_11 t428 = some r) ∧ Aside0 (kq ≤ k) ∧ Aside0 (Kd.R k32 32 wc w.heap.size (fun k_ => some k_ ≠ (u433000 : Value).ownBlock) u432000 x432000_11) ∧ Aside0 (Kd.R k35 35 wc w.heap.size (fun k_ => some k_ ≠ ((.slice Ao24 t428.length co24) : Value).ownBlock) (.slice Ao21 t422.length co21) t422) ∧ Aside0 (Kd.R k32 32 wc w.heap.size (fun k_ => some k_ ≠ (u432000 : Value).ownBlock) u433000 x433000_11) ∧ Aside0 (Kd.R k35 35 wc w.heap.size (fun k_ => some k_ ≠ ((.slice Ao21 t422.length co21) : Value).ownBlock) (.slice Ao24 t428.length co24) t428) ∧ Aside0 (wc.heap[gb431]? = some (.cells #[u432000, (.slice Ao21 t422.length co21)] 25 (0, 0))) ∧ Aside0 (wc.heap[gb432]? = some (.cells #[u433000, (.slice Ao24 t428.length co24)] 25 (0, 0))) ∧ Aside0 (Below w.heap.size w wc))
    case first =>
      have H := HC12.out
      clear HC12
      by_cases c32 : 0 < (t425.length : Int)
      rotate_left
      · rw [if_neg c32] at H
        exact absurd H (by simp)
      rw [if_pos c32] at H
      have c32b0 : decide (0 < (t425.length : Int)) = true := decide_eq_true c32
      have c32b1 : decide (0 < t425.length) = true := decide_eq_true (by omega)
      clear c32
      (first | rw [c32b0] | (simp only [i64_w, i32_w]; rw [c32b0]) | rw [c32b1] | skip)
      obtain ⟨y439, hy439⟩ : ∃ y_ : List (S32), y_ = (t425.set (0 : Int).toNat (⟨(rd_T32 t425 0).f0, wrap64 (((rd_T32 t425 0).f1) + 1)⟩ : S32)) := ⟨_, rfl⟩
      replace H : (damperlaw5_TableCopy.j0 k l0 l1 t437 t419 t422 y439 t428) = some r := by first | (rw [hy439]; with_reducible exact H) | (have H2_ := (Option.bind_some _ _).symm.trans H; rw [hy439]; with_reducible exact H2_) | (have H2_ := (Option.bind_some _ _).symm.trans H; with_reducible exact H2_) | with_reducible exact H | (rw [hy439]; exact H) | exact H
      have Ny439 := Aside0.mk hy439
      clear hy439
      have H' := Aside0.mk H
      clear H
      have hnb34 := NB432_431.out
      have hnc34 := NB431_432.out
      have hcz35_0 : w31.cell? ⟨gb432, 0, none⟩ = some (.slice Ao22 t425.length co22) := bc BK432 0
      have hcz35_1 : w31.cell? ⟨gb432, 1, none⟩ = some (.slice Ao24 t428.length co24) := bc BK432 1
      have hfz35_0 := blk_frozen BK432.out 0
      have hfz35_1 := blk_frozen BK432.out 1
      have p438 : 0 ≤ (0 : Int) := (by omega)
      have q438 : 0 < (t425.length : Int) := of_decide_eq_true (by first | (with_reducible assumption) | assumption)
      obtain ⟨ad438, e438, hx438_0, hx438_1⟩ := at_T32 (Kd.R_reads' HO427.out).2.2 0 p438 q438
      cases e438
      have qi438 : (0 < t425.length) = True := eq_true (by omega)
      (try rw [show ((0 : Int)).toNat = 0 from rfl] at hx438_0)
      (try rw [show 0 * 2 = 0 from rfl] at hx438_0)
      (try rw [Addr.add_zero'] at hx438_0)
      (try rw [show ((0 : Int)).toNat = 0 from rfl] at hx438_1)
      (try rw [show 0 * 2 = 0 from rfl] at hx438_1)
      (try rw [Addr.add_zero'] at hx438_1)
      replace p438 := eq_true p438
      replace q438 := eq_true q438
      have p33 : 0 ≤ (0 : Int) := (by omega)
      have q33 : (0 : Int) < ((t425.length : Int) : Int) := of_decide_eq_true (by first | (with_reducible assumption) | assumption)
      have qi33 : (0 < t425.length) = True := eq_true (by omega)
      obtain ⟨go33, co33, eo33, gb33, gl33, cl33, HG33⟩ := Kd.R_form HO427.out (by omega)
      (first | cases eo33 | (injection eo33 with ea_ en_ ec_; (first | subst ea_ | (injection ea_ with ea_; subst ea_)); subst ec_; clear en_))
      have GB33 := Aside0.mk gb33
      have GG33 := Aside0.mk HG33
      clear gb33 gl33 HG33
      (first | simp only [add_plain] at hx438_0 | skip)
      (first | simp only [add_plain] at hx438_1 | skip)
      obtain ⟨ce33, hcl33, hM33, hcc33, hfr33⟩ := Kd.R_elem HO427.out z32 (0 : Int) p33 q33
      obtain rfl := k32_openM hM33
      have hx33_0 : w31.cell? ⟨go33, (0 : Int).toNat * 2, none⟩ = some (.string ((rd_T32 t425 0).f0)) := hcc33 0 _ rfl
      have hx33_1 : w31.cell? ⟨go33, (0 : Int).toNat * 2 + 1, none⟩ = some (.int .i64 ((rd_T32 t425 0).f1)) := hcc33 1 _ rfl
      have hf33_0 : w31.frozen? ⟨go33, (0 : Int).toNat * 2, none⟩ = false := hfr33 0
      have hf33_1 : w31.frozen? ⟨go33, (0 : Int).toNat * 2 + 1, none⟩ = false := hfr33 1
      clear hcl33 hcc33 hfr33 hM33
      (try rw [show ((0 : Int)).toNat = 0 from rfl] at hx33_0)
      (try simp only [Nat.reduceMul, Nat.zero_mul, Nat.zero_add, Nat.reduceAdd] at hx33_0)
      (try rw [show ((0 : Int)).toNat = 0 from rfl] at hf33_0)
      (try simp only [Nat.reduceMul, Nat.zero_mul, Nat.zero_add, Nat.reduceAdd] at hf33_0)
      (try rw [show ((0 : Int)).toNat = 0 from rfl] at hx33_1)
      (try simp only [Nat.reduceMul, Nat.zero_mul, Nat.zero_add, Nat.reduceAdd] at hx33_1)
      (try rw [show ((0 : Int)).toNat = 0 from rfl] at hf33_1)
      (try simp only [Nat.reduceMul, Nat.zero_mul, Nat.zero_add, Nat.reduceAdd] at hf33_1)
      replace p33 := eq_true p33
      replace q33 := eq_true q33
      have n_ := Aside0.mk (Kd.R_mono (ok' := (fun k_ => some k_ ≠ (.slice Ao18 t419.length co18 : Value).ownBlock)) HO427.out (fun k_ hk => hk.2))
      clear HO427
      have HO427 := n_
      clear n_
      have HX36 := Aside0.mk (show Kd.R k32 32 w31 w.heap.size (fun k_ => some k_ ≠ (.slice Ao18 t419.length co18 : Value).ownBlock) (.slice (some ⟨go33, 0, none⟩) t425.length co22) t425 from (by (with_reducible repeat (first | apply Kd.R_alloc | apply Kd.R_drewN | apply Kd.R_drew)); exact HO427.out))
      obtain ⟨ce36, hcl36, hM36, hcc36, hfr36⟩ := Kd.R_elem HX36.out z32 (0 : Int) (by omega) (by have h_ : (0 : Int) < ((t425.length : Int) : Int) := of_decide_eq_true (by first | (with_reducible assumption) | assumption); first | exact h_ | (have e_ := (Kd.R_reads' HO427.out).1; omega) | simpa using h_)
      obtain rfl := k32_openM hM36
      have HP36 := Kd.R_seg HX36.out (0 : Int) (by omega) (by have h_ : (0 : Int) < ((t425.length : Int) : Int) := of_decide_eq_true (by first | (with_reducible assumption) | assumption); first | exact h_ | (have e_ := (Kd.R_reads' HO427.out).1; omega) | simpa using h_) (seg := [.int .i64 (wrap64 (((rd_T32 t425 0).f1) + 1))]) (j := 1) hcl36 hcc36 (show 2 ≤ 2 from by decide) (x' := (⟨(rd_T32 t425 0).f0, wrap64 (((rd_T32 t425 0).f1) + 1)⟩ : S32)) (k32_mkM _ _ _ (⟨(rd_T32 t425 0).f0, wrap64 (((rd_T32 t425 0).f1) + 1)⟩ : S32) ) (fun _ hk => hk)
      have hx36_1 := hcc36 1 _ rfl
      (try simp only [show (k32).sz = 2 from rfl, Nat.mul_one, Nat.add_zero] at hx36_1)
      (try rw [show ((0 : Int)).toNat = 0 from rfl] at hx36_1)
      (try simp only [Nat.reduceMul, Nat.zero_mul, Nat.zero_add, Nat.reduceAdd] at hx36_1)
      have hf36_1 := hfr36 1
      (try simp only [show (k32).sz = 2 from rfl, Nat.mul_one, Nat.add_zero] at hf36_1)
      (try rw [show ((0 : Int)).toNat = 0 from rfl] at hf36_1)
      (try simp only [Nat.reduceMul, Nat.zero_mul, Nat.zero_add, Nat.reduceAdd] at hf36_1)
      clear hcl36 hcc36 hfr36 hM36
      go_wp2_with (first | ((with_reducible refine gate_store (t := 3) (p := 34) rfl ?_); refine store_event (t := 3) (p := 34) (v := ?vo_w37) (w1 := (w31.setCell ⟨go33, 1, none⟩ (.int .i64 (wrap64 (((rd_T32 t425 0).f1) + 1))))) ?hg ?ho ?hn ?hr ?_; (case ho => rfl); (case hg => rfl); (case hn => rfl); (case hr => first | (go_simp; done) | (go_simp; rfl)); intro w37 hw; have hg : w31.grownBy w37 (some go33) := (by rw [hw]; exact HP36.2); have hp_ : Kd.R k32 32 w37 w.heap.size (fun k_ => some k_ ≠ (.slice Ao18 t419.length co18 : Value).ownBlock) (.slice (some ⟨go33, 0, none⟩) t425.length co22) y439 := (by rw [hw, Ny439.out]; exact HP36.1); clear HP36; have n0_ := Aside0.mk (Kd.R_after (v := (.slice (some ⟨go33, 0, none⟩) t425.length co22)) (v1 := (.slice (some ⟨go33, 0, none⟩) t425.length co22)) (ok := (fun _ => True)) (by (with_reducible repeat (first | apply Kd.R_alloc | apply Kd.R_drewN | apply Kd.R_drew)); exact HO421.out) hg (.inl rfl)); have n1_ := Aside0.mk (Kd.R_over' (v := (.slice (some ⟨go33, 0, none⟩) t425.length co22)) (by (with_reducible repeat (first | apply Kd.R_alloc | apply Kd.R_drewN | apply Kd.R_drew)); exact HO424.out) (Kd.R_typed HO427.out) (by decide) hg); have n2_ := Aside0.mk (hp_); have n3_ := Aside0.mk (Kd.R_over' (v := (.slice (some ⟨go33, 0, none⟩) t425.length co22)) (by (with_reducible repeat (first | apply Kd.R_alloc | apply Kd.R_drewN | apply Kd.R_drew)); exact HO430.out) (Kd.R_typed HO427.out) (by decide) hg); have n4_ := Aside0.mk (blk_grown (g := gb431) (pk BK431) hg (Kd.R_ne HO427.out BK431.out (by decide))); have n5_ := Aside0.mk (blk_grown (g := gb432) (pk BK432) hg (Kd.R_ne HO427.out BK432.out (by decide))); have n6_ := Aside0.mk ((by rw [hw]; exact below_set (HB.out) GB33.out : Below w.heap.size w w37)); clear HO421; clear HO424; clear HO427; clear HO430; clear BK431; clear BK432; clear HB; have HO421 := n0_; have HO424 := n1_; have HO427 := n2_; have HO430 := n3_; have BK431 := n4_; have BK432 := n5_; have HB := n6_; clear n0_ n1_ n2_ n3_ n4_ n5_ n6_; clear hg hw hp_))
      go_meet
      case rel => exact ⟨_, (t419), (y439), (.slice Ao18 t419.length co18), (.slice (some ⟨go33, 0, none⟩) t425.length co22), H', ⟨by first | omega | exact Nat.le_refl _⟩, ⟨by (with_reducible repeat (first | apply Kd.R_alloc | apply Kd.R_drewN | apply Kd.R_drew)); exact Kd.R_mono HO421.out (fun _ hk => hk.2)⟩, ⟨by (with_reducible repeat (first | apply Kd.R_alloc | apply Kd.R_drewN | apply Kd.R_drew)); exact Kd.R_mono HO424.out (fun _ hk => hk.2)⟩, ⟨by (with_reducible repeat (first | apply Kd.R_alloc | apply Kd.R_drewN | apply Kd.R_drew)); exact HO427.out⟩, ⟨by (with_reducible repeat (first | apply Kd.R_alloc | apply Kd.R_drewN | apply Kd.R_drew)); exact Kd.R_mono HO430.out (fun _ hk => hk.2)⟩, ⟨by (with_reducible repeat (first | refine blk_drewN ?_ _ | refine blk_drew ?_ | refine blk_alloc ?_ _)); exact BK431.out⟩, ⟨by (with_reducible repeat (first | refine blk_drewN ?_ _ | refine blk_drew ?_ | refine blk_alloc ?_ _)); exact BK432.out⟩, ⟨by repeat (first | (with_reducible first | exact HB.out | apply below_alloc | apply pw_below_drewN | apply below_drew1 | refine below_set ?_ GE431.out | refine below_set ?_ GE432.out) | exact HB.out)⟩⟩
    case rest =>
      clear HC12
      try clear c1
      try clear c2
      try clear p2
      try clear c3
      try clear p3
      try clear q3
      try clear hx3
      try clear qi3
      try clear hf3
      try clear p4
      try clear q4
      try clear hx4
      try clear qi4
      try clear c5
      try clear p6
      try clear c8
      try clear c9
      try clear c11
      try clear c12
      try clear c16
      try clear c18
      try clear c19
      try clear c20
      try clear c32
      try clear c32b0
      try clear c32b1
      try clear c33
      try clear p33
      try clear q33
      try clear hx33
      try clear qi33
      try clear hf33
      try clear c34
      try clear c36
      try clear hx36
      try clear hf36
      try clear hcz20_0
      try clear hcz20_1
      try clear hcz23_0
      try clear hcz23_1
      try clear hcz26_0
      try clear hcz26_1
      try clear hcz28_0
      try clear hcz28_1
      try clear hcz30_0
      try clear hcz30_1
      try clear hcz35_0
      try clear hcz35_1
      try clear hfz20_0
      try clear hfz20_1
      try clear hfz23_0
      try clear hfz23_1
      try clear hfz26_0
      try clear hfz26_1
      try clear hfz28_0
      try clear hfz28_1
      try clear hfz30_0
      try clear hfz30_1
      try clear hfz35_0
      try clear hfz35_1
      try clear hx33_0
      try clear hx33_1
      try clear hx36_1
      try clear hx438_0
      try clear hx438_1
      try clear p33
      try clear p438
      try clear q33
      try clear q438
      obtain ⟨kq, x432000_11, x433000_11, u432000, u433000, HA, HJ11, HO_432000, HO_432001, HO_433000, HO_433001, BK431, BK432, HB⟩ := hcut
      cases kq with
      | zero => exact absurd HA.out (by simp [damperlaw5_TableCopy.j0])
      | succ kj11 =>
        have H := HA.out
        clear HA
        simp only [damperlaw5_TableCopy.j0] at H
        replace H := Option.bind_eq_some_iff.mp H
        obtain ⟨⟨t440, t443⟩, A380, H⟩ := H
        replace H : ((damperref5_Same.f kj11 x432000_11 t422 t440 t443).bind fun t446 => (if t446 = true then ((table_Same.f kj11 x432000_11 t422 x433000_11 t428).bind fun t447 => (if t447 = true then (some false) else ((table_Text.f kj11 x432000_11 t422).bind fun t448 => (if t448.toList = t437.toList then ((table_Right.f x433000_11 t428).bind fun t449 => (some (!t449))) else (some false))))) else (some false))) = some r := H
        have A38 := Aside0.mk A380
        clear A380
        replace H := Option.bind_eq_some_iff.mp H
        obtain ⟨t446, A390, H⟩ := H
        replace H : (if t446 = true then ((table_Same.f kj11 x432000_11 t422 x433000_11 t428).bind fun t447 => (if t447 = true then (some false) else ((table_Text.f kj11 x432000_11 t422).bind fun t448 => (if t448.toList = t437.toList then ((table_Right.f x433000_11 t428).bind fun t449 => (some (!t449))) else (some false))))) else (some false)) = some r := H
        have A39 := Aside0.mk A390
        clear A390
        by_cases c40 : t446 = true
        · subst c40
          have H1 : ((table_Same.f kj11 x432000_11 t422 x433000_11 t428).bind fun t447 => (if t447 = true then (some false) else ((table_Text.f kj11 x432000_11 t422).bind fun t448 => (if t448.toList = t437.toList then ((table_Right.f x433000_11 t428).bind fun t449 => (some (!t449))) else (some false))))) = some r := by rw [if_pos rfl] at H; exact H
          clear H
          have H := H1
          clear H1
          replace H := Option.bind_eq_some_iff.mp H
          obtain ⟨t447, A410, H⟩ := H
          replace H : (if t447 = true then (some false) else ((table_Text.f kj11 x432000_11 t422).bind fun t448 => (if t448.toList = t437.toList then ((table_Right.f x433000_11 t428).bind fun t449 => (some (!t449))) else (some false)))) = some r := H
          have A41 := Aside0.mk A410
          clear A410
          by_cases c42 : t447 = true
          · subst c42
            have H1 : (some false) = some r := by rw [if_pos rfl] at H; exact H
            clear H
            have H := H1
            clear H1
            exact absurd (Option.some.inj H) (by rw [hr0_.out]; decide)
          · replace c42 := Bool.eq_false_iff.mpr c42
            subst c42
            have H1 : ((table_Text.f kj11 x432000_11 t422).bind fun t448 => (if t448.toList = t437.toList then ((table_Right.f x433000_11 t428).bind fun t449 => (some (!t449))) else (some false))) = some r := by rw [if_neg (show ¬ (false = true) by decide)] at H; exact H
            clear H
            have H := H1
            clear H1
            replace H := Option.bind_eq_some_iff.mp H
            obtain ⟨t448, A430, H⟩ := H
            replace H : (if t448.toList = t437.toList then ((table_Right.f x433000_11 t428).bind fun t449 => (some (!t449))) else (some false)) = some r := H
            have A43 := Aside0.mk A430
            clear A430
            by_cases c44 : t448.toList = t437.toList
            · rw [if_pos c44] at H
              have c44b0 : (t448.toList == t437.toList) = true := beq_iff_eq.mpr c44
              have c44b1 : (t448.toList != t437.toList) = false := bne_eq_false_iff_eq.mpr c44
              clear c44
              replace H := Option.bind_eq_some_iff.mp H
              obtain ⟨t449, A450, H⟩ := H
              replace H : (some (!t449)) = some r := H
              have A45 := Aside0.mk A450
              clear A450
              obtain rfl := Option.some.inj H
              try go_wp2
              replace HO_432000 := Aside0.mk (Kd.R_drew HO_432000.out)
              replace HO_432001 := Aside0.mk (Kd.R_drew HO_432001.out)
              replace HO_433000 := Aside0.mk (Kd.R_drew HO_433000.out)
              replace HO_433001 := Aside0.mk (Kd.R_drew HO_433001.out)
              replace BK431 := Aside0.mk (blk_drew BK431.out)
              replace BK432 := Aside0.mk (blk_drew BK432.out)
              replace HB := Aside0.mk (below_drew1 HB.out)
              refine start_ (n := 23) (S := fun w' => w'.cell? ⟨gb431, 0, none⟩ = some (u432000) ∧ w'.cell? ⟨gb431, 1, none⟩ = some (.slice Ao21 t422.length co21) ∧ w'.cell? ⟨gb432, 0, none⟩ = some (u433000) ∧ w'.cell? ⟨gb432, 1, none⟩ = some (.slice Ao24 t428.length co24)) (ds := []) #[false, false, false, false, false, false, false, false, false, false, false, false, false, false, false, false, false, false, false, false, false, false, false] (by kernel_rfl) rfl rfl ⟨bc BK431 0, bc BK431 1, bc BK432 0, bc BK432 1⟩ (fun hHeld => ?_); refine with_tabW damperlaw5_TableCopy.tab9 damperlaw5_TableCopy.bits9 (fun HT_ HW_ => ?_)
              generalize wc.drew = w46 at HO_432000 HO_432001 HO_433000 HO_433001 BK431 BK432 HB hHeld ⊢
              refine pure_ (i := 1) (N := some 36) (v := ?_) (a' := ?_) #[false, true, false, false, false, false, false, false, false, false, false, false, false, false, false, false, false, false, false, false, false, false, false] rfl rfl (any_of HT_.out (by kernel_rfl)) (fun _ _ _ h => h) (Or.inl ⟨by rfl, ?_⟩) ?_ ?_
              rotate_left
              · intro w'
                go_simp
                with_reducible rfl
              rotate_left
              · simp only [Act.put, List.setIfInBounds_toArray, List.set_cons_zero, List.set_cons_succ, i64_w, i32_w]
                rfl
              refine pure_ (i := 2) (N := some 37) (v := ?_) (a' := ?_) #[false, true, true, false, false, false, false, false, false, false, false, false, false, false, false, false, false, false, false, false, false, false, false] rfl rfl (any_of HT_.out (by kernel_rfl)) (fun _ _ _ h => h) (Or.inl ⟨by rfl, ?_⟩) ?_ ?_
              rotate_left
              · intro w'
                go_simp
                with_reducible rfl
              rotate_left
              · simp only [Act.put, List.setIfInBounds_toArray, List.set_cons_zero, List.set_cons_succ, i64_w, i32_w]
                rfl
              refine take_ (i := 0) (N := some 35) (v := ?_) (a' := ?_) #[true, true, true, false, false, false, false, false, false, false, false, false, false, false, false, false, false, false, false, false, false, false, false] rfl rfl (take_ofW HT_.out HW_.out (by kernel_rfl)) (fun _ _ _ h => h) (Or.inl ⟨by rfl, ?_⟩) hHeld ?_ ?_
              rotate_left
              · rintro w' ⟨s0, s1, s2, s3⟩
                go_simp
                with_reducible rfl
              rotate_left
              · simp only [Act.put, List.setIfInBounds_toArray, List.set_cons_zero, List.set_cons_succ, i64_w, i32_w]
                rfl
              refine one_ (i := 3) (N := some 38) #[true, true, true, true, false, false, false, false, false, false, false, false, false, false, false, false, false, false, false, false, false, false, false] rfl rfl (one_of HT_.out (by kernel_rfl)) (by decide) (fun K hK => ?_)
              refine goes_ Tryd.func11 (by kernel_rfl) rfl #[.slice A0 l0.length c0, .slice A1 l1.length c1] (by rfl) rfl rfl (by (try simp only [List.map_toArray, List.map_cons, List.map_nil]); first | done | rfl | (simp only [List.length_drop, List.length_take]; rfl)) ?_
              with_reducible refine (damperlaw5_Make.calls kj11 _ _ l0 _ _ l1 t440 t443 _ ?side1 ?side2 ?side3 ?side4 A38.out).mono ?_
              (case side1 => repeat (first | exact (Kd.C_below HR0.out HB.out) | (with_reducible refine Kd.C_alloc ?_ _) | (with_reducible refine Kd.C_drewN ?_ _) | (with_reducible refine Kd.C_drew ?_)))
              (case side2 => exact HC0.out)
              (case side3 => repeat (first | exact (Kd.C_below HR1.out HB.out) | (with_reducible refine Kd.C_alloc ?_ _) | (with_reducible refine Kd.C_drewN ?_ _) | (with_reducible refine Kd.C_drew ?_)))
              (case side4 => exact HC1.out)
              rintro e w47 ⟨v441, v444, rfl, ho0, ho1, hb⟩
              refine ⟨_, rfl, ?_⟩
              have HO442 := Aside0.mk (Kd.R_lower (Kd.R_new' (Kd.R_new' ho0 (Kd.R_lt (by (with_reducible repeat (first | apply Kd.R_alloc | apply Kd.R_drewN | apply Kd.R_drew)); exact HO_432000.out))) (Kd.R_lt (by (with_reducible repeat (first | apply Kd.R_alloc | apply Kd.R_drewN | apply Kd.R_drew)); exact HO_433000.out))) (below_size (by repeat (first | (with_reducible first | exact HB.out | apply below_alloc | apply pw_below_drewN | apply below_drew1 | refine below_set ?_ GE431.out | refine below_set ?_ GE432.out) | exact HB.out))))
              have HO445 := Aside0.mk (Kd.R_lower (Kd.R_new' (Kd.R_new' ho1 (Kd.R_lt (by (with_reducible repeat (first | apply Kd.R_alloc | apply Kd.R_drewN | apply Kd.R_drew)); exact HO_432001.out))) (Kd.R_lt (by (with_reducible repeat (first | apply Kd.R_alloc | apply Kd.R_drewN | apply Kd.R_drew)); exact HO_433001.out))) (below_size (by repeat (first | (with_reducible first | exact HB.out | apply below_alloc | apply pw_below_drewN | apply below_drew1 | refine below_set ?_ GE431.out | refine below_set ?_ GE432.out) | exact HB.out))))
              replace HO_432000 := Aside0.mk (Kd.R_elder' (by (with_reducible repeat (first | apply Kd.R_alloc | apply Kd.R_drewN | apply Kd.R_drew)); exact HO_432000.out) (Kd.R_base ho0) hb)
              replace HO_432001 := Aside0.mk (Kd.R_elder' (by (with_reducible repeat (first | apply Kd.R_alloc | apply Kd.R_drewN | apply Kd.R_drew)); exact HO_432001.out) (Kd.R_base ho1) hb)
              replace HO_433000 := Aside0.mk (Kd.R_elder' (by (with_reducible repeat (first | apply Kd.R_alloc | apply Kd.R_drewN | apply Kd.R_drew)); exact HO_433000.out) (Kd.R_base ho0) hb)
              replace HO_433001 := Aside0.mk (Kd.R_elder' (by (with_reducible repeat (first | apply Kd.R_alloc | apply Kd.R_drewN | apply Kd.R_drew)); exact HO_433001.out) (Kd.R_base ho1) hb)
              replace BK431 := Aside0.mk (blk_below (g := gb431) (pk BK431) hb)
              replace BK432 := Aside0.mk (blk_below (g := gb432) (pk BK432) hb)
              replace HB := Aside0.mk (below_step (by repeat (first | (with_reducible first | exact HB.out | apply below_alloc | apply pw_below_drewN | apply below_drew1 | refine below_set ?_ GE431.out | refine below_set ?_ GE432.out) | exact HB.out)) hb)
              (try clear hb)
              (try clear hb2)
              (try clear hk)
              (try clear hi)
              (try clear ho0)
              (try clear ho1)
              obtain ⟨Ao48, co48, eo48⟩ := Kd.R_slice HO_432000.out
              (first | subst eo48 | (injection eo48 with f1_ f2_ f3_; have f4_ := f1_.symm; have f5_ := f3_.symm; clear f1_ f2_ f3_; subst f4_; subst f5_))
              obtain ⟨Ao49, co49, eo49⟩ := Kd.R_slice HO442.out
              (first | subst eo49 | (injection eo49 with f1_ f2_ f3_; have f4_ := f1_.symm; have f5_ := f3_.symm; clear f1_ f2_ f3_; subst f4_; subst f5_))
              obtain ⟨Ao50, co50, eo50⟩ := Kd.R_slice HO445.out
              (first | subst eo50 | (injection eo50 with f1_ f2_ f3_; have f4_ := f1_.symm; have f5_ := f3_.symm; clear f1_ f2_ f3_; subst f4_; subst f5_))
              refine hK.out _ _ ⟨bc BK431 0, bc BK431 1, bc BK432 0, bc BK432 1⟩ (fun hHeld => ?_)
              clear hK K
              refine norm_ (a' := ?_) ?_ ?_
              rotate_left
              · show Act.put _ (some 38) _ = _
                simp only [Act.put, List.setIfInBounds_toArray, List.set_cons_zero, List.set_cons_succ, i64_w, i32_w]
                rfl
              refine one_ (i := 4) (N := some 39) #[true, true, true, true, true, false, false, false, false, false, false, false, false, false, false, false, false, false, false, false, false, false, false] rfl rfl (one_of HT_.out (by kernel_rfl)) (by decide) (fun K hK => ?_)
              refine goes_ Tryd.func22 (by kernel_rfl) rfl #[.agg #[.slice Ao48 x432000_11.length co48, .slice Ao21 t422.length co21], .agg #[.slice Ao49 t440.length co49, .slice Ao50 t443.length co50]] (by rfl) rfl rfl (by (try simp only [List.map_toArray, List.map_cons, List.map_nil]); first | done | rfl | (simp only [List.length_drop, List.length_take]; rfl)) ?_
              with_reducible refine (damperref5_Same.calls kj11 _ _ x432000_11 _ _ t422 _ _ t440 _ _ t443 true _ ?side1 ?side2 ?side3 ?side4 ?side5 ?side6 ?side7 ?side8 A39.out).mono ?_
              (case side1 => repeat (first | exact (Kd.R_reads' HO_432000.out).2.2 | (with_reducible refine Kd.C_alloc ?_ _) | (with_reducible refine Kd.C_drewN ?_ _) | (with_reducible refine Kd.C_drew ?_)))
              (case side2 => exact (Kd.R_reads' HO_432000.out).2.1)
              (case side3 => repeat (first | exact (Kd.R_reads' HO_432001.out).2.2 | (with_reducible refine Kd.C_alloc ?_ _) | (with_reducible refine Kd.C_drewN ?_ _) | (with_reducible refine Kd.C_drew ?_)))
              (case side4 => exact (Kd.R_reads' HO_432001.out).2.1)
              (case side5 => repeat (first | exact (Kd.R_reads' HO442.out).2.2 | (with_reducible refine Kd.C_alloc ?_ _) | (with_reducible refine Kd.C_drewN ?_ _) | (with_reducible refine Kd.C_drew ?_)))
              (case side6 => exact (Kd.R_reads' HO442.out).2.1)
              (case side7 => repeat (first | exact (Kd.R_reads' HO445.out).2.2 | (with_reducible refine Kd.C_alloc ?_ _) | (with_reducible refine Kd.C_drewN ?_ _) | (with_reducible refine Kd.C_drew ?_)))
              (case side8 => exact (Kd.R_reads' HO445.out).2.1)
              rintro e w51 ⟨rfl, hb⟩
              refine ⟨_, rfl, ?_⟩
              replace HO_432000 := Aside0.mk (Kd.R_below (by (with_reducible repeat (first | apply Kd.R_alloc | apply Kd.R_drewN | apply Kd.R_drew)); exact HO_432000.out) hb)
              replace HO_432001 := Aside0.mk (Kd.R_below (by (with_reducible repeat (first | apply Kd.R_alloc | apply Kd.R_drewN | apply Kd.R_drew)); exact HO_432001.out) hb)
              replace HO_433000 := Aside0.mk (Kd.R_below (by (with_reducible repeat (first | apply Kd.R_alloc | apply Kd.R_drewN | apply Kd.R_drew)); exact HO_433000.out) hb)
              replace HO_433001 := Aside0.mk (Kd.R_below (by (with_reducible repeat (first | apply Kd.R_alloc | apply Kd.R_drewN | apply Kd.R_drew)); exact HO_433001.out) hb)
              replace HO442 := Aside0.mk (Kd.R_below (by (with_reducible repeat (first | apply Kd.R_alloc | apply Kd.R_drewN | apply Kd.R_drew)); exact HO442.out) hb)
              replace HO445 := Aside0.mk (Kd.R_below (by (with_reducible repeat (first | apply Kd.R_alloc | apply Kd.R_drewN | apply Kd.R_drew)); exact HO445.out) hb)
              replace BK431 := Aside0.mk (blk_below (g := gb431) (pk BK431) hb)
              replace BK432 := Aside0.mk (blk_below (g := gb432) (pk BK432) hb)
              replace HB := Aside0.mk (below_step (by repeat (first | (with_reducible first | exact HB.out | apply below_alloc | apply pw_below_drewN | apply below_drew1 | refine below_set ?_ GE431.out | refine below_set ?_ GE432.out) | exact HB.out)) hb)
              (try clear hb)
              (try clear hb2)
              (try clear hk)
              (try clear hi)
              obtain ⟨Ao52, co52, eo52⟩ := Kd.R_slice HO_433000.out
              (first | subst eo52 | (injection eo52 with f1_ f2_ f3_; have f4_ := f1_.symm; have f5_ := f3_.symm; clear f1_ f2_ f3_; subst f4_; subst f5_))
              refine hK.out _ _ ⟨bc BK431 0, bc BK431 1, bc BK432 0, bc BK432 1⟩ (fun hHeld => ?_)
              clear hK K
              refine norm_ (a' := ?_) ?_ ?_
              rotate_left
              · show Act.put _ (some 39) _ = _
                simp only [Act.put, List.setIfInBounds_toArray, List.set_cons_zero, List.set_cons_succ, i64_w, i32_w]
                rfl
              refine pure_ (i := 5) (N := some 40) (v := ?_) (a' := ?_) #[true, true, true, true, true, true, false, false, false, false, false, false, false, false, false, false, false, false, false, false, false, false, false] rfl rfl (any_of HT_.out (by kernel_rfl)) (fun _ _ _ h => h) (Or.inl ⟨by rfl, ?_⟩) ?_ ?_
              rotate_left
              · intro w'
                go_simp
                with_reducible rfl
              rotate_left
              · simp only [Act.put, List.setIfInBounds_toArray, List.set_cons_zero, List.set_cons_succ, i64_w, i32_w]
                rfl
              refine take_ (i := 6) (N := some 41) (v := ?_) (a' := ?_) #[true, true, true, true, true, true, true, false, false, false, false, false, false, false, false, false, false, false, false, false, false, false, false] rfl rfl (take_ofW HT_.out HW_.out (by kernel_rfl)) (fun _ _ _ h => h) (Or.inl ⟨by rfl, ?_⟩) hHeld ?_ ?_
              rotate_left
              · rintro w' ⟨s0, s1, s2, s3⟩
                go_simp
                with_reducible rfl
              rotate_left
              · simp only [Act.put, List.setIfInBounds_toArray, List.set_cons_zero, List.set_cons_succ, i64_w, i32_w]
                rfl
              refine take_ (i := 7) (N := some 42) (v := ?_) (a' := ?_) #[true, true, true, true, true, true, true, true, false, false, false, false, false, false, false, false, false, false, false, false, false, false, false] rfl rfl (take_ofW HT_.out HW_.out (by kernel_rfl)) (fun _ _ _ h => h) (Or.inl ⟨by rfl, ?_⟩) hHeld ?_ ?_
              rotate_left
              · rintro w' ⟨s0, s1, s2, s3⟩
                go_simp
                with_reducible rfl
              rotate_left
              · simp only [Act.put, List.setIfInBounds_toArray, List.set_cons_zero, List.set_cons_succ, i64_w, i32_w]
                rfl
              refine one_ (i := 8) (N := some 43) #[true, true, true, true, true, true, true, true, true, false, false, false, false, false, false, false, false, false, false, false, false, false, false] rfl rfl (one_of HT_.out (by kernel_rfl)) (by decide) (fun K hK => ?_)
              refine goes_ Tryd.func17 (by kernel_rfl) rfl #[.agg #[.slice Ao48 x432000_11.length co48, .slice Ao21 t422.length co21], .agg #[.slice Ao52 x433000_11.length co52, .slice Ao24 t428.length co24]] (by rfl) rfl rfl (by (try simp only [List.map_toArray, List.map_cons, List.map_nil]); first | done | rfl | (simp only [List.length_drop, List.length_take]; rfl)) ?_
              with_reducible refine (table_Same.calls kj11 _ _ x432000_11 _ _ t422 _ _ x433000_11 _ _ t428 false _ ?side9 ?side1 ?side2 ?side3 ?side4 ?side5 ?side6 ?side7 ?side8 A41.out).mono ?_
              (case side1 => repeat (first | exact (Kd.R_reads' HO_432000.out).2.2 | (with_reducible refine Kd.C_alloc ?_ _) | (with_reducible refine Kd.C_drewN ?_ _) | (with_reducible refine Kd.C_drew ?_)))
              (case side2 => exact (Kd.R_reads' HO_432000.out).2.1)
              (case side3 => repeat (first | exact (Kd.R_reads' HO_432001.out).2.2 | (with_reducible refine Kd.C_alloc ?_ _) | (with_reducible refine Kd.C_drewN ?_ _) | (with_reducible refine Kd.C_drew ?_)))
              (case side4 => exact (Kd.R_reads' HO_432001.out).2.1)
              (case side5 => repeat (first | exact (Kd.R_reads' HO_433000.out).2.2 | (with_reducible refine Kd.C_alloc ?_ _) | (with_reducible refine Kd.C_drewN ?_ _) | (with_reducible refine Kd.C_drew ?_)))
              (case side6 => exact (Kd.R_reads' HO_433000.out).2.1)
              (case side7 => repeat (first | exact (Kd.R_reads' HO_433001.out).2.2 | (with_reducible refine Kd.C_alloc ?_ _) | (with_reducible refine Kd.C_drewN ?_ _) | (with_reducible refine Kd.C_drew ?_)))
              (case side8 => exact (Kd.R_reads' HO_433001.out).2.1)
              (case side9 => first | exact hLd_.out | exact hLd_ | exact ⟨LaidW.below hLd_.out (by repeat (first | (with_reducible first | exact HB.out | apply below_alloc | apply pw_below_drewN | apply below_drew1 | refine below_set ?_ GE431.out | refine below_set ?_ GE432.out) | exact HB.out))⟩ | exact ⟨LaidW.below hLd_.out (by repeat (first | exact Below.refl _ _ | apply below_alloc | apply pw_below_drewN | apply below_drew1))⟩)
              rintro e w53 ⟨rfl, hb⟩
              refine ⟨_, rfl, ?_⟩
              replace HO_432000 := Aside0.mk (Kd.R_below (by (with_reducible repeat (first | apply Kd.R_alloc | apply Kd.R_drewN | apply Kd.R_drew)); exact HO_432000.out) hb)
              replace HO_432001 := Aside0.mk (Kd.R_below (by (with_reducible repeat (first | apply Kd.R_alloc | apply Kd.R_drewN | apply Kd.R_drew)); exact HO_432001.out) hb)
              replace HO_433000 := Aside0.mk (Kd.R_below (by (with_reducible repeat (first | apply Kd.R_alloc | apply Kd.R_drewN | apply Kd.R_drew)); exact HO_433000.out) hb)
              replace HO_433001 := Aside0.mk (Kd.R_below (by (with_reducible repeat (first | apply Kd.R_alloc | apply Kd.R_drewN | apply Kd.R_drew)); exact HO_433001.out) hb)
              replace HO442 := Aside0.mk (Kd.R_below (by (with_reducible repeat (first | apply Kd.R_alloc | apply Kd.R_drewN | apply Kd.R_drew)); exact HO442.out) hb)
              replace HO445 := Aside0.mk (Kd.R_below (by (with_reducible repeat (first | apply Kd.R_alloc | apply Kd.R_drewN | apply Kd.R_drew)); exact HO445.out) hb)
              replace BK431 := Aside0.mk (blk_below (g := gb431) (pk BK431) hb)
              replace BK432 := Aside0.mk (blk_below (g := gb432) (pk BK432) hb)
              replace HB := Aside0.mk (below_step (by repeat (first | (with_reducible first | exact HB.out | apply below_alloc | apply pw_below_drewN | apply below_drew1 | refine below_set ?_ GE431.out | refine below_set ?_ GE432.out) | exact HB.out)) hb)
              (try clear hb)
              (try clear hb2)
              (try clear hk)
              (try clear hi)
              refine hK.out _ _ ⟨bc BK431 0, bc BK431 1, bc BK432 0, bc BK432 1⟩ (fun hHeld => ?_)
              clear hK K
              refine norm_ (a' := ?_) ?_ ?_
              rotate_left
              · show Act.put _ (some 43) _ = _
                simp only [Act.put, List.setIfInBounds_toArray, List.set_cons_zero, List.set_cons_succ, i64_w, i32_w]
                rfl
              refine pure_ (i := 9) (N := some 44) (v := ?_) (a' := ?_) #[true, true, true, true, true, true, true, true, true, true, false, false, false, false, false, false, false, false, false, false, false, false, false] rfl rfl (any_of HT_.out (by kernel_rfl)) (fun _ _ _ h => h) (Or.inl ⟨by rfl, ?_⟩) ?_ ?_
              rotate_left
              · intro w'
                go_simp
                with_reducible rfl
              rotate_left
              · simp only [Act.put, List.setIfInBounds_toArray, List.set_cons_zero, List.set_cons_succ, i64_w, i32_w]
                rfl
              refine pure_ (i := 10) (N := some 45) (v := ?_) (a' := ?_) #[true, true, true, true, true, true, true, true, true, true, true, false, false, false, false, false, false, false, false, false, false, false, false] rfl rfl (any_of HT_.out (by kernel_rfl)) (fun _ _ _ h => h) (Or.inl ⟨by rfl, ?_⟩) ?_ ?_
              rotate_left
              · intro w'
                go_simp
                with_reducible rfl
              rotate_left
              · simp only [Act.put, List.setIfInBounds_toArray, List.set_cons_zero, List.set_cons_succ, i64_w, i32_w]
                rfl
              refine pure_ (i := 11) (N := some 46) (v := ?_) (a' := ?_) #[true, true, true, true, true, true, true, true, true, true, true, true, false, false, false, false, false, false, false, false, false, false, false] rfl rfl (any_of HT_.out (by kernel_rfl)) (fun _ _ _ h => h) (Or.inl ⟨by rfl, ?_⟩) ?_ ?_
              rotate_left
              · intro w'
                go_simp
                with_reducible rfl
              rotate_left
              · simp only [Act.put, List.setIfInBounds_toArray, List.set_cons_zero, List.set_cons_succ, i64_w, i32_w]
                rfl
              refine pure_ (i := 14) (N := some 49) (v := ?_) (a' := ?_) #[true, true, true, true, true, true, true, true, true, true, true, true, false, false, true, false, false, false, false, false, false, false, false] rfl rfl (any_of HT_.out (by kernel_rfl)) (fun _ _ _ h => h) (Or.inl ⟨by rfl, ?_⟩) ?_ ?_
              rotate_left
              · intro w'
                go_simp
                with_reducible rfl
              rotate_left
              · simp only [Act.put, List.setIfInBounds_toArray, List.set_cons_zero, List.set_cons_succ, i64_w, i32_w]
                rfl
              refine take_ (i := 12) (N := some 47) (v := ?_) (a' := ?_) #[true, true, true, true, true, true, true, true, true, true, true, true, true, false, true, false, false, false, false, false, false, false, false] rfl rfl (take_ofW HT_.out HW_.out (by kernel_rfl)) (fun _ _ _ h => h) (Or.inl ⟨by rfl, ?_⟩) hHeld ?_ ?_
              rotate_left
              · rintro w' ⟨s0, s1, s2, s3⟩
                go_simp
                with_reducible rfl
              rotate_left
              · simp only [Act.put, List.setIfInBounds_toArray, List.set_cons_zero, List.set_cons_succ, i64_w, i32_w]
                rfl
              refine one_ (i := 13) (N := some 48) #[true, true, true, true, true, true, true, true, true, true, true, true, true, true, true, false, false, false, false, false, false, false, false] rfl rfl (one_of HT_.out (by kernel_rfl)) (by decide) (fun K hK => ?_)
              refine goes_ Tryd.func18 (by kernel_rfl) rfl #[.agg #[.slice Ao48 x432000_11.length co48, .slice Ao21 t422.length co21]] (by rfl) rfl rfl (by (try simp only [List.map_toArray, List.map_cons, List.map_nil]); first | done | rfl | (simp only [List.length_drop, List.length_take]; rfl)) ?_
              with_reducible refine (table_Text.calls kj11 _ _ x432000_11 _ _ t422 t448 _ ?side5 ?side1 ?side2 ?side3 ?side4 A43.out).mono ?_
              (case side1 => repeat (first | exact (Kd.R_reads' HO_432000.out).2.2 | (with_reducible refine Kd.C_alloc ?_ _) | (with_reducible refine Kd.C_drewN ?_ _) | (with_reducible refine Kd.C_drew ?_)))
              (case side2 => exact (Kd.R_reads' HO_432000.out).2.1)
              (case side3 => repeat (first | exact (Kd.R_reads' HO_432001.out).2.2 | (with_reducible refine Kd.C_alloc ?_ _) | (with_reducible refine Kd.C_drewN ?_ _) | (with_reducible refine Kd.C_drew ?_)))
              (case side4 => exact (Kd.R_reads' HO_432001.out).2.1)
              (case side5 => first | exact hLd_.out | exact hLd_ | exact ⟨LaidW.below hLd_.out (by repeat (first | (with_reducible first | exact HB.out | apply below_alloc | apply pw_below_drewN | apply below_drew1 | refine below_set ?_ GE431.out | refine below_set ?_ GE432.out) | exact HB.out))⟩ | exact ⟨LaidW.below hLd_.out (by repeat (first | exact Below.refl _ _ | apply below_alloc | apply pw_below_drewN | apply below_drew1))⟩)
              rintro e w54 ⟨rfl, hb⟩
              refine ⟨_, rfl, ?_⟩
              replace HO_432000 := Aside0.mk (Kd.R_below (by (with_reducible repeat (first | apply Kd.R_alloc | apply Kd.R_drewN | apply Kd.R_drew)); exact HO_432000.out) hb)
              replace HO_432001 := Aside0.mk (Kd.R_below (by (with_reducible repeat (first | apply Kd.R_alloc | apply Kd.R_drewN | apply Kd.R_drew)); exact HO_432001.out) hb)
              replace HO_433000 := Aside0.mk (Kd.R_below (by (with_reducible repeat (first | apply Kd.R_alloc | apply Kd.R_drewN | apply Kd.R_drew)); exact HO_433000.out) hb)
              replace HO_433001 := Aside0.mk (Kd.R_below (by (with_reducible repeat (first | apply Kd.R_alloc | apply Kd.R_drewN | apply Kd.R_drew)); exact HO_433001.out) hb)
              replace HO442 := Aside0.mk (Kd.R_below (by (with_reducible repeat (first | apply Kd.R_alloc | apply Kd.R_drewN | apply Kd.R_drew)); exact HO442.out) hb)
              replace HO445 := Aside0.mk (Kd.R_below (by (with_reducible repeat (first | apply Kd.R_alloc | apply Kd.R_drewN | apply Kd.R_drew)); exact HO445.out) hb)
              replace BK431 := Aside0.mk (blk_below (g := gb431) (pk BK431) hb)
              replace BK432 := Aside0.mk (blk_below (g := gb432) (pk BK432) hb)
              replace HB := Aside0.mk (below_step (by repeat (first | (with_reducible first | exact HB.out | apply below_alloc | apply pw_below_drewN | apply below_drew1 | refine below_set ?_ GE431.out | refine below_set ?_ GE432.out) | exact HB.out)) hb)
              (try clear hb)
              (try clear hb2)
              (try clear hk)
              (try clear hi)
              refine hK.out _ _ ⟨bc BK431 0, bc BK431 1, bc BK432 0, bc BK432 1⟩ (fun hHeld => ?_)
              clear hK K
              refine norm_ (a' := ?_) ?_ ?_
              rotate_left
              · show Act.put _ (some 48) _ = _
                simp only [Act.put, List.setIfInBounds_toArray, List.set_cons_zero, List.set_cons_succ, i64_w, i32_w]
                rfl
              refine pure_ (i := 15) (N := some 50) (v := ?_) (a' := ?_) #[true, true, true, true, true, true, true, true, true, true, true, true, true, true, true, true, false, false, false, false, false, false, false] rfl rfl (any_of HT_.out (by kernel_rfl)) (fun _ _ _ h => h) (Or.inl ⟨by rfl, ?_⟩) ?_ ?_
              rotate_left
              · intro w'
                go_simp
                with_reducible rfl
              rotate_left
              · simp only [Act.put, List.setIfInBounds_toArray, List.set_cons_zero, List.set_cons_succ, i64_w, i32_w]
                rfl
              refine pure_ (i := 16) (N := some 51) (v := ?_) (a' := ?_) #[true, true, true, true, true, true, true, true, true, true, true, true, true, true, true, true, true, false, false, false, false, false, false] rfl rfl (any_of HT_.out (by kernel_rfl)) (fun _ _ _ h => h) (Or.inl ⟨by rfl, ?_⟩) ?_ ?_
              rotate_left
              · intro w'
                go_simp
                with_reducible rfl
              rotate_left
              · simp only [Act.put, List.setIfInBounds_toArray, List.set_cons_zero, List.set_cons_succ, i64_w, i32_w]
                rfl
              refine pure_ (i := 17) (N := some 52) (v := ?_) (a' := ?_) #[true, true, true, true, true, true, true, true, true, true, true, true, true, true, true, true, true, true, false, false, false, false, false] rfl rfl (any_of HT_.out (by kernel_rfl)) (fun _ _ _ h => h) (Or.inl ⟨by rfl, ?_⟩) ?_ ?_
              rotate_left
              · intro w'
                go_simp
                with_reducible rfl
              rotate_left
              · simp only [Act.put, List.setIfInBounds_toArray, List.set_cons_zero, List.set_cons_succ, i64_w, i32_w]
                rfl
              refine take_ (i := 18) (N := some 53) (v := ?_) (a' := ?_) #[true, true, true, true, true, true, true, true, true, true, true, true, true, true, true, true, true, true, true, false, false, false, false] rfl rfl (take_ofW HT_.out HW_.out (by kernel_rfl)) (fun _ _ _ h => h) (Or.inl ⟨by rfl, ?_⟩) hHeld ?_ ?_
              rotate_left
              · rintro w' ⟨s0, s1, s2, s3⟩
                go_simp
                with_reducible rfl
              rotate_left
              · simp only [Act.put, List.setIfInBounds_toArray, List.set_cons_zero, List.set_cons_succ, i64_w, i32_w]
                rfl
              refine one_ (i := 19) (N := some 54) #[true, true, true, true, true, true, true, true, true, true, true, true, true, true, true, true, true, true, true, true, false, false, false] rfl rfl (one_of HT_.out (by kernel_rfl)) (by decide) (fun K hK => ?_)
              refine goes_ Tryd.func12 (by kernel_rfl) rfl #[.agg #[.slice Ao52 x433000_11.length co52, .slice Ao24 t428.length co24]] (by rfl) rfl rfl (by (try simp only [List.map_toArray, List.map_cons, List.map_nil]); first | done | rfl | (simp only [List.length_drop, List.length_take]; rfl)) ?_
              with_reducible refine (table_Right.calls _ _ x433000_11 _ _ t428 t449 _ ?side5 ?side1 ?side2 ?side3 ?side4 A45.out).mono ?_
              (case side1 => repeat (first | exact (Kd.R_reads' HO_433000.out).2.2 | (with_reducible refine Kd.C_alloc ?_ _) | (with_reducible refine Kd.C_drewN ?_ _) | (with_reducible refine Kd.C_drew ?_)))
              (case side2 => exact (Kd.R_reads' HO_433000.out).2.1)
              (case side3 => repeat (first | exact (Kd.R_reads' HO_433001.out).2.2 | (with_reducible refine Kd.C_alloc ?_ _) | (with_reducible refine Kd.C_drewN ?_ _) | (with_reducible refine Kd.C_drew ?_)))
              (case side4 => exact (Kd.R_reads' HO_433001.out).2.1)
              (case side5 => first | exact hLd_.out | exact hLd_ | exact ⟨LaidW.below hLd_.out (by repeat (first | (with_reducible first | exact HB.out | apply below_alloc | apply pw_below_drewN | apply below_drew1 | refine below_set ?_ GE431.out | refine below_set ?_ GE432.out) | exact HB.out))⟩ | exact ⟨LaidW.below hLd_.out (by repeat (first | exact Below.refl _ _ | apply below_alloc | apply pw_below_drewN | apply below_drew1))⟩)
              rintro e w55 ⟨rfl, hb⟩
              refine ⟨_, rfl, ?_⟩
              replace HO_432000 := Aside0.mk (Kd.R_below (by (with_reducible repeat (first | apply Kd.R_alloc | apply Kd.R_drewN | apply Kd.R_drew)); exact HO_432000.out) hb)
              replace HO_432001 := Aside0.mk (Kd.R_below (by (with_reducible repeat (first | apply Kd.R_alloc | apply Kd.R_drewN | apply Kd.R_drew)); exact HO_432001.out) hb)
              replace HO_433000 := Aside0.mk (Kd.R_below (by (with_reducible repeat (first | apply Kd.R_alloc | apply Kd.R_drewN | apply Kd.R_drew)); exact HO_433000.out) hb)
              replace HO_433001 := Aside0.mk (Kd.R_below (by (with_reducible repeat (first | apply Kd.R_alloc | apply Kd.R_drewN | apply Kd.R_drew)); exact HO_433001.out) hb)
              replace HO442 := Aside0.mk (Kd.R_below (by (with_reducible repeat (first | apply Kd.R_alloc | apply Kd.R_drewN | apply Kd.R_drew)); exact HO442.out) hb)
              replace HO445 := Aside0.mk (Kd.R_below (by (with_reducible repeat (first | apply Kd.R_alloc | apply Kd.R_drewN | apply Kd.R_drew)); exact HO445.out) hb)
              replace BK431 := Aside0.mk (blk_below (g := gb431) (pk BK431) hb)
              replace BK432 := Aside0.mk (blk_below (g := gb432) (pk BK432) hb)
              replace HB := Aside0.mk (below_step (by repeat (first | (with_reducible first | exact HB.out | apply below_alloc | apply pw_below_drewN | apply below_drew1 | refine below_set ?_ GE431.out | refine below_set ?_ GE432.out) | exact HB.out)) hb)
              (try clear hb)
              (try clear hb2)
              (try clear hk)
              (try clear hi)
              refine hK.out _ _ ⟨bc BK431 0, bc BK431 1, bc BK432 0, bc BK432 1⟩ (fun hHeld => ?_)
              clear hK K
              refine norm_ (a' := ?_) ?_ ?_
              rotate_left
              · show Act.put _ (some 54) _ = _
                simp only [Act.put, List.setIfInBounds_toArray, List.set_cons_zero, List.set_cons_succ, i64_w, i32_w]
                rfl
              refine pure_ (i := 20) (N := some 55) (v := ?_) (a' := ?_) #[true, true, true, true, true, true, true, true, true, true, true, true, true, true, true, true, true, true, true, true, true, false, false] rfl rfl (any_of HT_.out (by kernel_rfl)) (fun _ _ _ h => h) (Or.inl ⟨by rfl, ?_⟩) ?_ ?_
              rotate_left
              · intro w'
                go_simp
                with_reducible rfl
              rotate_left
              · simp only [Act.put, List.setIfInBounds_toArray, List.set_cons_zero, List.set_cons_succ, i64_w, i32_w]
                rfl
              refine pure_ (i := 21) (N := some 56) (v := ?_) (a' := ?_) #[true, true, true, true, true, true, true, true, true, true, true, true, true, true, true, true, true, true, true, true, true, true, false] rfl rfl (any_of HT_.out (by kernel_rfl)) (fun _ _ _ h => h) (Or.inl ⟨by rfl, ?_⟩) ?_ ?_
              rotate_left
              · intro w'
                go_simp
                with_reducible rfl
              rotate_left
              · simp only [Act.put, List.setIfInBounds_toArray, List.set_cons_zero, List.set_cons_succ, i64_w, i32_w]
                rfl
              refine pure_ (i := 22) (N := some 6) (v := ?_) (a' := ?_) #[true, true, true, true, true, true, true, true, true, true, true, true, true, true, true, true, true, true, true, true, true, true, true] rfl rfl (any_of HT_.out (by kernel_rfl)) (fun _ _ _ h => h) (Or.inl ⟨by rfl, ?_⟩) ?_ ?_
              rotate_left
              · intro w'
                go_simp
                with_reducible rfl
              rotate_left
              · simp only [Act.put, List.setIfInBounds_toArray, List.set_cons_zero, List.set_cons_succ, i64_w, i32_w]
                rfl
              refine done_ (done_of HT_.out (by kernel_rfl)) ?_
              try go_wp2
              go_ret
              exact ⟨by first | rfl | (simp [errW_none, errW_some] <;> rfl) | (simp [*, errW_none, errW_some] <;> rfl), by repeat (first | (with_reducible first | exact HB.out | apply below_alloc | apply pw_below_drewN | apply below_drew1 | refine below_set ?_ GE431.out | refine below_set ?_ GE432.out) | exact HB.out)⟩
            · rw [if_neg c44] at H
              have c44b0 : (t448.toList == t437.toList) = false := beq_eq_false_iff_ne.mpr c44
              have c44b1 : (t448.toList != t437.toList) = true := bne_iff_ne.mpr c44
              exact absurd (Option.some.inj H) (by rw [hr0_.out]; decide)
        · replace c40 := Bool.eq_false_iff.mpr c40
          subst c40
          have H1 : (some false) = some r := by rw [if_neg (show ¬ (false = true) by decide)] at H; exact H
          clear H
          have H := H1
          clear H1
          exact absurd (Option.some.inj H) (by rw [hr0_.out]; decide)
  · replace c5 := Bool.eq_false_iff.mpr c5
    subst c5
    have H1 : (some false) = some r := by rw [if_neg (show ¬ (false = true) by decide)] at H; exact H
    clear H
    have H := H1
    clear H1
    exact absurd (Option.some.inj H) (by rw [hr0_.out]; decide)

/-- THE ONE PURE STATEMENT of damperlaw5_TableCopy: yours. -/
def damperlaw5_TableCopy.Pure : Prop := ∀ (l0 : List Int) (l1 : List Int) (a2 : Int), (l0.length ≤ maxLen ∧ ∀ y_ ∈ l0, (Lit.int .i64 y_).wf = true) → (l1.length ≤ maxLen ∧ ∀ y_ ∈ l1, (Lit.int .i64 y_).wf = true) → ((Lit.int .i64 a2).wf = true) → ∃ k, damperlaw5_TableCopy.f k l0 l1 a2 = some true
theorem damperlaw5_TableCopy.walk (P : damperlaw5_TableCopy.Pure) (A0 : Option Addr) (c0 : Nat) (l0 : List Int) (A1 : Option Addr) (c1 : Nat) (l1 : List Int) (a2 : Int) (w : World) (hLd_ : LaidW w) (w0 : l0.length ≤ maxLen ∧ ∀ y_ ∈ l0, (Lit.int .i64 y_).wf = true) (w1 : l1.length ≤ maxLen ∧ ∀ y_ ∈ l1, (Lit.int .i64 y_).wf = true) (w2 : (Lit.int .i64 a2).wf = true) (hr0 : Kd.C (Kd.int .i64) w A0 l0.length l0) (hc0 : l0.length ≤ c0) (hr1 : Kd.C (Kd.int .i64) w A1 l1.length l1) (hc1 : l1.length ≤ c1) :
    Calls Tryd.prog 8 #[.slice A0 l0.length c0, .slice A1 l1.length c1, .int .i64 a2] w fun e w' => e = .returned (.bool true) ∧ Below w.heap.size w w' := by
  obtain ⟨k, h⟩ := P l0 l1 a2 w0 w1 w2
  refine (damperlaw5_TableCopy.calls k A0 c0 l0 A1 c1 l1 a2 true w ⟨hLd_⟩ hr0 hc0 hr1 hc1 ⟨rfl⟩ h).mono ?_
  rintro e w' ⟨rfl, hd⟩
  exact ⟨rfl, hd⟩

end Go.Proofs.YtckcimahclpdfaaDoor.Ma
