-- Written by a program of this session (wip/tools/myprint.py), in the form of the kit's print. Not trusted: Lean checks it.
import Derived.Test.YtckcimahclpdfaaDoorMax0
import Derived.Test.YtckcimahclpdfaaDoorMax8
import Derived.Test.YtckcimahclpdfaaDoorMax10
import Derived.Test.YtckcimahclpdfaaDoorMax16
namespace Go.Proofs.YtckcimahclpdfaaDoor.Ma
open Go.RowKit Go.Proofs.YtckcimahclpdfaaDoorW.PrintWords Go.Proofs.YtckcimahclpdfaaDoorW.PrintLast Go.Proofs.YtckcimahclpdfaaDoorW.PrintMore
attribute [local go_sem] max2_int min2_int max_two min_two max_three min_three max_four min_four   -- for this text's walks alone
set_option linter.unusedVariables false
set_option linter.unusedSimpArgs false

/-! ### damperlaw5_TableSame: function 6 -/
def damperlaw5_TableSame.j0 : Nat → List (S32) → List (S35) → List (S32) → List (S35) → List (S32) → List (S35) → Option (Bool)
  | 0, _, _, _, _, _, _ => none
  | k + 1, x329000, x329001, x330000, x330001, x337000, x337001 => (table_Same.f k x329000 x329001 x330000 x330001).bind fun t340 => ((table_Text.f k x329000 x329001).bind fun t341 => ((table_Text.f k x330000 x330001).bind fun t342 => (if (t340 == (t341.toList == t342.toList)) = true then ((table_Same.f k x329000 x329001 x337000 x337001).bind fun t343 => (if t343 = true then (some false) else ((table_Same.f k x337000 x337001 x329000 x329001).bind fun t344 => (if t344 = true then (some false) else ((table_Same.f k x330000 x330001 x329000 x329001).bind fun t345 => ((table_Same.f k x329000 x329001 x330000 x330001).bind fun t346 => (some (t345 == t346)))))))) else (some false))))
def damperlaw5_TableSame.f (k : Nat) (l0 : List Int) (l1 : List Int) (l2 : List Int) (l3 : List Int) : Option (Bool) := (damperlaw5_known.f k).bind fun t315 => (if t315 = true then ((damperlaw5_Make.f k l0 l1).bind fun bt316 => ((damperlaw5_Make.f k l2 l3).bind fun bt322 => ((damperlaw5_Make.f k l0 l1).bind fun bt330 => (if bt330.2.length < 4398046511104 then (damperlaw5_TableSame.j0 k bt316.1 bt316.2 bt322.1 bt322.2 bt330.1 (bt330.2 ++ [(⟨(⟨#[122]⟩ : ByteArray), (⟨#[119, 101, 98, 45, 49]⟩ : ByteArray)⟩ : S35)])) else (none))))) else (some false))
theorem damperlaw5_TableSame.mono_l : ∀ k, (∀ y0 y1 y2 y3 y4 y5, LeO (damperlaw5_TableSame.j0 k y0 y1 y2 y3 y4 y5) (damperlaw5_TableSame.j0 (k + 1) y0 y1 y2 y3 y4 y5))
  | 0 => fun _ _ _ _ _ _ r h => by simp [damperlaw5_TableSame.j0] at h
  | k + 1 => by
    have ih0 := damperlaw5_TableSame.mono_l k
    · intro y0 y1 y2 y3 y4 y5
      unfold damperlaw5_TableSame.j0
      repeat' first
      | (with_reducible exact ih0 _ _ _ _ _ _)
      | (with_reducible exact damperlaw5_Make.mono _ _ _)
      | (with_reducible exact damperlaw5_known.mono _)
      | (with_reducible exact table_Same.mono _ _ _ _ _)
      | (with_reducible exact table_Text.mono _ _ _)
      | (with_reducible exact LeO.refl _)
      | (with_reducible exact LeO.none _)
      | (with_reducible refine LeO.ite ?_ ?_)
      | (with_reducible refine LeO.bind ?_ (fun _ => ?_))
      | exact ih0 _ _ _ _ _ _
      | exact damperlaw5_Make.mono _ _ _
      | exact damperlaw5_known.mono _
      | exact table_Same.mono _ _ _ _ _
      | exact table_Text.mono _ _ _
      | exact LeO.none _
      | refine LeO.ite ?_ ?_
      | refine LeO.bind ?_ (fun _ => ?_)
theorem damperlaw5_TableSame.mono : ∀ a0 a1 a2 a3 k, LeO (damperlaw5_TableSame.f k a0 a1 a2 a3) (damperlaw5_TableSame.f (k + 1) a0 a1 a2 a3) := by
  intro a0 a1 a2 a3 k
  have ih0 := damperlaw5_TableSame.mono_l k
  unfold damperlaw5_TableSame.f
  repeat' first
      | (with_reducible exact ih0 _ _ _ _ _ _)
      | (with_reducible exact damperlaw5_Make.mono _ _ _)
      | (with_reducible exact damperlaw5_known.mono _)
      | (with_reducible exact table_Same.mono _ _ _ _ _)
      | (with_reducible exact table_Text.mono _ _ _)
      | (with_reducible exact LeO.refl _)
      | (with_reducible exact LeO.none _)
      | (with_reducible refine LeO.ite ?_ ?_)
      | (with_reducible refine LeO.bind ?_ (fun _ => ?_))
      | exact ih0 _ _ _ _ _ _
      | exact damperlaw5_Make.mono _ _ _
      | exact damperlaw5_known.mono _
      | exact table_Same.mono _ _ _ _ _
      | exact table_Text.mono _ _ _
      | exact LeO.none _
      | refine LeO.ite ?_ ?_
      | refine LeO.bind ?_ (fun _ => ?_)
def damperlaw5_TableSame.T6 : Bool × List (List Nat × List Nat) := (true, [([], []), ([], []), ([0, 1], [0, 1]), ([], []), ([3, 2], [3]), ([], []), ([5, 4], [5]), ([4, 6], [4, 6]), ([2, 7], [2, 7]), ([8, 6], [8]), ([9], [9]), ([9], [9]), ([10, 11, 9, 9], [9, 10, 11]), ([12, 9], [9, 12]), ([9, 13], [9, 13]), ([14, 12], [14]), ([15], [15]), ([15], [15]), ([16, 17, 15, 15], [15, 16, 17]), ([18, 15], [15, 18]), ([15, 19], [15, 19]), ([20, 18], [20]), ([21], [21]), ([21], [21]), ([22, 23, 21, 21], [21, 22, 23]), ([21], [21]), ([21], [21]), ([25, 26, 24, 21], [21, 25, 26]), ([24, 27, 21], [21, 24, 27]), ([21, 28], [21, 28]), ([29, 27, 0, 1, 2, 3, 4, 5, 6, 7, 8, 9, 10, 11, 12, 13, 14, 15, 16, 17, 18, 19, 20, 21, 22, 23, 24, 25, 26, 27, 28, 29], [29])])
def damperlaw5_TableSame.B6 : List Nat := [0, 0, 3, 0, 15, 0, 63, 127, 255, 511, 1023, 1023, 4095, 8191, 16383, 32767, 65535, 65535, 262143, 524287, 1048575, 2097151, 4194303, 4194303, 16777215, 4194303, 4194303, 134217727, 268435455, 536870911, 1073741823]
theorem damperlaw5_TableSame.tab6 : rtab .any (opsOf Tryd.f6 6) = damperlaw5_TableSame.T6 := by kernel_rfl
theorem damperlaw5_TableSame.bits6 : waitsOk damperlaw5_TableSame.T6.2 damperlaw5_TableSame.B6 = true := by kernel_rfl
set_option maxHeartbeats 8000000 in
set_option maxRecDepth 100000 in
theorem damperlaw5_TableSame.calls (k : Nat) (A0 : Option Addr) (c0 : Nat) (l0 : List Int) (A1 : Option Addr) (c1 : Nat) (l1 : List Int) (A2 : Option Addr) (c2 : Nat) (l2 : List Int) (A3 : Option Addr) (c3 : Nat) (l3 : List Int) (r : Bool) (w : World) (hLd_ : Aside0 (LaidW w)) (hr0 : Kd.C (Kd.int .i64) w A0 l0.length l0) (hc0 : l0.length ≤ c0) (hr1 : Kd.C (Kd.int .i64) w A1 l1.length l1) (hc1 : l1.length ≤ c1) (hr2 : Kd.C (Kd.int .i64) w A2 l2.length l2) (hc2 : l2.length ≤ c2) (hr3 : Kd.C (Kd.int .i64) w A3 l3.length l3) (hc3 : l3.length ≤ c3) (hr0_ : Aside0 (r = true)) (h : damperlaw5_TableSame.f k l0 l1 l2 l3 = some r) :
    Calls Tryd.prog 6 #[.slice A0 l0.length c0, .slice A1 l1.length c1, .slice A2 l2.length c2, .slice A3 l3.length c3] w fun e w' => e = .returned (.bool r) ∧ Below w.heap.size w w' := by
  have hu25 := Tryd.underlying25
  have hu35 := Tryd.underlying35
  have HR0 := Aside0.mk hr0
  have HC0 := Aside0.mk hc0
  clear hr0 hc0
  have HR1 := Aside0.mk hr1
  have HC1 := Aside0.mk hc1
  clear hr1 hc1
  have HR2 := Aside0.mk hr2
  have HC2 := Aside0.mk hc2
  clear hr2 hc2
  have HR3 := Aside0.mk hr3
  have HC3 := Aside0.mk hc3
  clear hr3 hc3
  have HB := Aside0.mk (Below.refl w.heap.size w)
  have H : ((damperlaw5_known.f k).bind fun t315 => (if t315 = true then ((damperlaw5_Make.f k l0 l1).bind fun bt316 => ((damperlaw5_Make.f k l2 l3).bind fun bt322 => ((damperlaw5_Make.f k l0 l1).bind fun bt330 => (if bt330.2.length < 4398046511104 then (damperlaw5_TableSame.j0 k bt316.1 bt316.2 bt322.1 bt322.2 bt330.1 (bt330.2 ++ [(⟨(⟨#[122]⟩ : ByteArray), (⟨#[119, 101, 98, 45, 49]⟩ : ByteArray)⟩ : S35)])) else (none))))) else (some false))) = some r := h
  clear h
  replace H := Option.bind_eq_some_iff.mp H
  obtain ⟨t315, A50, H⟩ := H
  replace H : (if t315 = true then ((damperlaw5_Make.f k l0 l1).bind fun bt316 => ((damperlaw5_Make.f k l2 l3).bind fun bt322 => ((damperlaw5_Make.f k l0 l1).bind fun bt330 => (if bt330.2.length < 4398046511104 then (damperlaw5_TableSame.j0 k bt316.1 bt316.2 bt322.1 bt322.2 bt330.1 (bt330.2 ++ [(⟨(⟨#[122]⟩ : ByteArray), (⟨#[119, 101, 98, 45, 49]⟩ : ByteArray)⟩ : S35)])) else (none))))) else (some false)) = some r := H
  have A5 := Aside0.mk A50
  clear A50
  by_cases c6 : t315 = true
  · subst c6
    have H1 : ((damperlaw5_Make.f k l0 l1).bind fun bt316 => ((damperlaw5_Make.f k l2 l3).bind fun bt322 => ((damperlaw5_Make.f k l0 l1).bind fun bt330 => (if bt330.2.length < 4398046511104 then (damperlaw5_TableSame.j0 k bt316.1 bt316.2 bt322.1 bt322.2 bt330.1 (bt330.2 ++ [(⟨(⟨#[122]⟩ : ByteArray), (⟨#[119, 101, 98, 45, 49]⟩ : ByteArray)⟩ : S35)])) else (none))))) = some r := by rw [if_pos rfl] at H; exact H
    clear H
    have H := H1
    clear H1
    replace H := Option.bind_eq_some_iff.mp H
    obtain ⟨⟨t316, t319⟩, A70, H⟩ := H
    replace H : ((damperlaw5_Make.f k l2 l3).bind fun bt322 => ((damperlaw5_Make.f k l0 l1).bind fun bt330 => (if bt330.2.length < 4398046511104 then (damperlaw5_TableSame.j0 k t316 t319 bt322.1 bt322.2 bt330.1 (bt330.2 ++ [(⟨(⟨#[122]⟩ : ByteArray), (⟨#[119, 101, 98, 45, 49]⟩ : ByteArray)⟩ : S35)])) else (none)))) = some r := H
    have A7 := Aside0.mk A70
    clear A70
    replace H := Option.bind_eq_some_iff.mp H
    obtain ⟨⟨t322, t325⟩, A80, H⟩ := H
    replace H : ((damperlaw5_Make.f k l0 l1).bind fun bt330 => (if bt330.2.length < 4398046511104 then (damperlaw5_TableSame.j0 k t316 t319 t322 t325 bt330.1 (bt330.2 ++ [(⟨(⟨#[122]⟩ : ByteArray), (⟨#[119, 101, 98, 45, 49]⟩ : ByteArray)⟩ : S35)])) else (none))) = some r := H
    have A8 := Aside0.mk A80
    clear A80
    replace H := Option.bind_eq_some_iff.mp H
    obtain ⟨⟨t330, t333⟩, A90, H⟩ := H
    replace H : (if t333.length < 4398046511104 then (damperlaw5_TableSame.j0 k t316 t319 t322 t325 t330 (t333 ++ [(⟨(⟨#[122]⟩ : ByteArray), (⟨#[119, 101, 98, 45, 49]⟩ : ByteArray)⟩ : S35)])) else (none)) = some r := H
    have A9 := Aside0.mk A90
    clear A90
    have HC10 := Aside0.mk H
    clear H
    go_enter Tryd.func6, Tryd.ntmps6
    go_upto_region 5 with (first | ((with_reducible refine gate_callee (f := 9) rfl ?_); refine goesL_ (some 12) rfl rfl Tryd.func9 (by kernel_rfl) rfl #[] rfl (by (try simp only [List.map_toArray, List.map_cons, List.map_nil]); first | done | rfl | (simp only [List.length_drop, List.length_take]; rfl)) ?_; (with_reducible refine (damperlaw5_known.calls k  true _ ?side1 A5.out).mono ?_); (case side1 => first | exact hLd_.out | exact hLd_ | exact ⟨LaidW.below hLd_.out (by repeat (first | (with_reducible first | exact HB.out | apply below_alloc | apply pw_below_drewN | apply below_drew1) | exact HB.out))⟩ | exact ⟨LaidW.below hLd_.out (by repeat (first | exact Below.refl _ _ | apply below_alloc | apply pw_below_drewN | apply below_drew1))⟩); rintro e w11 ⟨rfl, hb⟩; refine ⟨_, rfl, ?_⟩; have n0_ := Aside0.mk (below_step (by repeat (first | (with_reducible first | exact HB.out | apply below_alloc | apply pw_below_drewN | apply below_drew1) | exact HB.out)) hb); clear HB; have HB := n0_; clear n0_; (try clear hb); (try clear hb2); (try clear hk); (try clear hi)) | ((with_reducible refine gate_callee (f := 11) rfl ?_); refine goesL_ (some 16) rfl rfl Tryd.func11 (by kernel_rfl) rfl #[.slice A0 l0.length c0, .slice A1 l1.length c1] rfl (by (try simp only [List.map_toArray, List.map_cons, List.map_nil]); first | done | rfl | (simp only [List.length_drop, List.length_take]; rfl)) ?_; (with_reducible refine (damperlaw5_Make.calls k _ _ l0 _ _ l1 t316 t319 _ ?side1 ?side2 ?side3 ?side4 A7.out).mono ?_); (case side1 => repeat (first | exact (Kd.C_below HR0.out HB.out) | (with_reducible refine Kd.C_alloc ?_ _) | (with_reducible refine Kd.C_drewN ?_ _) | (with_reducible refine Kd.C_drew ?_))); (case side2 => exact HC0.out); (case side3 => repeat (first | exact (Kd.C_below HR1.out HB.out) | (with_reducible refine Kd.C_alloc ?_ _) | (with_reducible refine Kd.C_drewN ?_ _) | (with_reducible refine Kd.C_drew ?_))); (case side4 => exact HC1.out); rintro e w12 ⟨v317, v320, rfl, ho0, ho1, hb⟩; refine ⟨_, rfl, ?_⟩; have n0_ := Aside0.mk (Kd.R_lower ho0 (below_size (by repeat (first | (with_reducible first | exact HB.out | apply below_alloc | apply pw_below_drewN | apply below_drew1) | exact HB.out)))); have n1_ := Aside0.mk (Kd.R_lower ho1 (below_size (by repeat (first | (with_reducible first | exact HB.out | apply below_alloc | apply pw_below_drewN | apply below_drew1) | exact HB.out)))); have n2_ := Aside0.mk (below_step (by repeat (first | (with_reducible first | exact HB.out | apply below_alloc | apply pw_below_drewN | apply below_drew1) | exact HB.out)) hb); clear HB; have HO318 := n0_; have HO321 := n1_; have HB := n2_; clear n0_ n1_ n2_; (try clear hb); (try clear hb2); (try clear hk); (try clear hi); (try clear ho0); (try clear ho1)) | ((with_reducible refine gate_callee (f := 11) rfl ?_); refine goesL_ (some 19) rfl rfl Tryd.func11 (by kernel_rfl) rfl #[.slice A2 l2.length c2, .slice A3 l3.length c3] rfl (by (try simp only [List.map_toArray, List.map_cons, List.map_nil]); first | done | rfl | (simp only [List.length_drop, List.length_take]; rfl)) ?_; (with_reducible refine (damperlaw5_Make.calls k _ _ l2 _ _ l3 t322 t325 _ ?side1 ?side2 ?side3 ?side4 A8.out).mono ?_); (case side1 => repeat (first | exact (Kd.C_below HR2.out HB.out) | (with_reducible refine Kd.C_alloc ?_ _) | (with_reducible refine Kd.C_drewN ?_ _) | (with_reducible refine Kd.C_drew ?_))); (case side2 => exact HC2.out); (case side3 => repeat (first | exact (Kd.C_below HR3.out HB.out) | (with_reducible refine Kd.C_alloc ?_ _) | (with_reducible refine Kd.C_drewN ?_ _) | (with_reducible refine Kd.C_drew ?_))); (case side4 => exact HC3.out); rintro e w13 ⟨v323, v326, rfl, ho0, ho1, hb⟩; refine ⟨_, rfl, ?_⟩; have n0_ := Aside0.mk (Kd.R_elder' (by (with_reducible repeat (first | apply Kd.R_alloc | apply Kd.R_drewN | apply Kd.R_drew)); exact HO318.out) (Kd.R_base ho0) hb); have n1_ := Aside0.mk (Kd.R_elder' (by (with_reducible repeat (first | apply Kd.R_alloc | apply Kd.R_drewN | apply Kd.R_drew)); exact HO321.out) (Kd.R_base ho1) hb); have n2_ := Aside0.mk (Kd.R_lower (Kd.R_new' ho0 (Kd.R_lt (by (with_reducible repeat (first | apply Kd.R_alloc | apply Kd.R_drewN | apply Kd.R_drew)); exact HO318.out))) (below_size (by repeat (first | (with_reducible first | exact HB.out | apply below_alloc | apply pw_below_drewN | apply below_drew1) | exact HB.out)))); have n3_ := Aside0.mk (Kd.R_lower (Kd.R_new' ho1 (Kd.R_lt (by (with_reducible repeat (first | apply Kd.R_alloc | apply Kd.R_drewN | apply Kd.R_drew)); exact HO321.out))) (below_size (by repeat (first | (with_reducible first | exact HB.out | apply below_alloc | apply pw_below_drewN | apply below_drew1) | exact HB.out)))); have n4_ := Aside0.mk (below_step (by repeat (first | (with_reducible first | exact HB.out | apply below_alloc | apply pw_below_drewN | apply below_drew1) | exact HB.out)) hb); clear HO318; clear HO321; clear HB; have HO318 := n0_; have HO321 := n1_; have HO324 := n2_; have HO327 := n3_; have HB := n4_; clear n0_ n1_ n2_ n3_ n4_; (try clear hb); (try clear hb2); (try clear hk); (try clear hi); (try clear ho0); (try clear ho1)) | ((with_reducible refine gate_dst (N := 9) rfl ?_); refine box_event ?hg (N := 9) ?hd (cs := #[.slice none 0 0, .slice none 0 0]) (t := 25) ?hr ?_; (case hd => rfl); (case hg => rfl); (case hr => first | (go_simp; done) | (go_simp; rfl)); intro gb328 hg w14 hbox hb; have n0_ := Aside0.mk (Kd.R_below (by (with_reducible repeat (first | apply Kd.R_alloc | apply Kd.R_drewN | apply Kd.R_drew)); exact HO318.out) hb); have n1_ := Aside0.mk (Kd.R_below (by (with_reducible repeat (first | apply Kd.R_alloc | apply Kd.R_drewN | apply Kd.R_drew)); exact HO321.out) hb); have n2_ := Aside0.mk (Kd.R_below (by (with_reducible repeat (first | apply Kd.R_alloc | apply Kd.R_drewN | apply Kd.R_drew)); exact HO324.out) hb); have n3_ := Aside0.mk (Kd.R_below (by (with_reducible repeat (first | apply Kd.R_alloc | apply Kd.R_drewN | apply Kd.R_drew)); exact HO327.out) hb); have n4_ := Aside0.mk (below_step (by repeat (first | (with_reducible first | exact HB.out | apply below_alloc | apply pw_below_drewN | apply below_drew1) | exact HB.out)) hb); have n5_ := Aside0.mk (hbox); have n6_ := Aside0.mk ((by rw [hg]; exact (below_size (by repeat (first | (with_reducible first | exact HB.out | apply below_alloc | apply pw_below_drewN | apply below_drew1) | exact HB.out))) : w.heap.size ≤ gb328)); have n7_ := Aside0.mk ((by rw [hg]; exact (below_size (by repeat (first | (with_reducible first | exact HB.out | apply below_alloc | apply pw_below_drewN | apply below_drew1) | exact HB.out))) : w.heap.size ≤ gb328)); clear HO318; clear HO321; clear HO324; clear HO327; clear HB; have HO318 := n0_; have HO321 := n1_; have HO324 := n2_; have HO327 := n3_; have HB := n4_; have BK328 := n5_; have GW328 := n6_; have GE328 := n7_; clear n0_ n1_ n2_ n3_ n4_ n5_ n6_ n7_; clear hb hbox hg) | ((with_reducible refine gate_dst (N := 10) rfl ?_); refine box_event ?hg (N := 10) ?hd (cs := #[.slice none 0 0, .slice none 0 0]) (t := 25) ?hr ?_; (case hd => rfl); (case hg => rfl); (case hr => first | (go_simp; done) | (go_simp; rfl)); intro gb329 hg w15 hbox hb; have n0_ := Aside0.mk (Kd.R_below (by (with_reducible repeat (first | apply Kd.R_alloc | apply Kd.R_drewN | apply Kd.R_drew)); exact HO318.out) hb); have n1_ := Aside0.mk (Kd.R_below (by (with_reducible repeat (first | apply Kd.R_alloc | apply Kd.R_drewN | apply Kd.R_drew)); exact HO321.out) hb); have n2_ := Aside0.mk (Kd.R_below (by (with_reducible repeat (first | apply Kd.R_alloc | apply Kd.R_drewN | apply Kd.R_drew)); exact HO324.out) hb); have n3_ := Aside0.mk (Kd.R_below (by (with_reducible repeat (first | apply Kd.R_alloc | apply Kd.R_drewN | apply Kd.R_drew)); exact HO327.out) hb); have n4_ := Aside0.mk (blk_below (g := gb328) (pk BK328) hb); have n5_ := Aside0.mk (below_step (by repeat (first | (with_reducible first | exact HB.out | apply below_alloc | apply pw_below_drewN | apply below_drew1 | refine below_set ?_ GE328.out) | exact HB.out)) hb); have n6_ := Aside0.mk (hbox); have n7_ := Aside0.mk ((by rw [hg]; exact (below_size (by repeat (first | (with_reducible first | exact HB.out | apply below_alloc | apply pw_below_drewN | apply below_drew1 | refine below_set ?_ GE328.out) | exact HB.out))) : w.heap.size ≤ gb329)); have n8_ := Aside0.mk ((by rw [hg]; exact (below_size (by repeat (first | (with_reducible first | exact HB.out | apply below_alloc | apply pw_below_drewN | apply below_drew1 | refine below_set ?_ GE328.out) | exact HB.out))) : w.heap.size ≤ gb329)); have n9_ := Aside0.mk ((ne_lt hg (pk BK328) : gb328 ≠ gb329)); have n10_ := Aside0.mk ((ne_gt hg (pk BK328) : gb329 ≠ gb328)); clear HO318; clear HO321; clear HO324; clear HO327; clear BK328; clear HB; have HO318 := n0_; have HO321 := n1_; have HO324 := n2_; have HO327 := n3_; have BK328 := n4_; have HB := n5_; have BK329 := n6_; have GW329 := n7_; have GE329 := n8_; have NB328_329 := n9_; have NB329_328 := n10_; clear n0_ n1_ n2_ n3_ n4_ n5_ n6_ n7_ n8_ n9_ n10_; clear hb hbox hg; obtain ⟨Ao16, co16, eo16⟩ := Kd.R_slice HO318.out; subst eo16; have hnb17 := NB328_329.out; have hnc17 := NB329_328.out; have hcz18_0 : w15.cell? ⟨gb328, 0, none⟩ = some (.slice none 0 0) := bc BK328 0; have hcz18_1 : w15.cell? ⟨gb328, 1, none⟩ = some (.slice none 0 0) := bc BK328 1; have hfz18_0 := blk_frozen BK328.out 0; have hfz18_1 := blk_frozen BK328.out 1; obtain ⟨Ao19, co19, eo19⟩ := Kd.R_slice HO321.out; subst eo19; obtain ⟨Ao20, co20, eo20⟩ := Kd.R_slice HO324.out; subst eo20; have hcz21_0 : w15.cell? ⟨gb329, 0, none⟩ = some (.slice none 0 0) := bc BK329 0; have hcz21_1 : w15.cell? ⟨gb329, 1, none⟩ = some (.slice none 0 0) := bc BK329 1; have hfz21_0 := blk_frozen BK329.out 0; have hfz21_1 := blk_frozen BK329.out 1; obtain ⟨Ao22, co22, eo22⟩ := Kd.R_slice HO327.out; subst eo22) | ((with_reducible refine gate_callee (f := 11) rfl ?_); refine goesL_ (some 22) rfl rfl Tryd.func11 (by kernel_rfl) rfl #[.slice A0 l0.length c0, .slice A1 l1.length c1] rfl (by (try simp only [List.map_toArray, List.map_cons, List.map_nil]); first | done | rfl | (simp only [List.length_drop, List.length_take]; rfl)) ?_; (with_reducible refine (damperlaw5_Make.calls k _ _ l0 _ _ l1 t330 t333 _ ?side1 ?side2 ?side3 ?side4 A9.out).mono ?_); (case side1 => exact Kd.C_below HR0.out (by repeat (first | (with_reducible first | exact HB.out | apply below_alloc | apply pw_below_drewN | apply below_drew1 | refine below_set ?_ GE328.out | refine below_set ?_ GE329.out) | exact HB.out))); (case side2 => exact HC0.out); (case side3 => exact Kd.C_below HR1.out (by repeat (first | (with_reducible first | exact HB.out | apply below_alloc | apply pw_below_drewN | apply below_drew1 | refine below_set ?_ GE328.out | refine below_set ?_ GE329.out) | exact HB.out))); (case side4 => exact HC1.out); rintro e w23 ⟨v331, v334, rfl, ho0, ho1, hb⟩; refine ⟨_, rfl, ?_⟩; have n0_ := Aside0.mk (Kd.R_elder' (by (with_reducible repeat (first | apply Kd.R_alloc | apply Kd.R_drewN | apply Kd.R_drew)); exact (Kd.R_mono (Kd.R_mono (Kd.R_far (p := ⟨gb329, 1, none⟩) (Kd.R_far (p := ⟨gb329, 0, none⟩) (Kd.R_far (p := ⟨gb328, 1, none⟩) (Kd.R_far (p := ⟨gb328, 0, none⟩) (Kd.R_types (Kd.R_types HO318.out BK328.out (by decide)) BK329.out (by decide)) (fun _ hk => hk.1.2) (.slice Ao16 t316.length co16)) (fun _ hk => hk.1.2) (.slice Ao19 t319.length co19)) (fun _ hk => hk.2) (.slice Ao20 t322.length co20)) (fun _ hk => hk.2) (.slice Ao22 t325.length co22)) (fun _ h_ => h_.1)) (fun _ h_ => h_.1))) (Kd.R_base ho0) hb); have n1_ := Aside0.mk (Kd.R_elder' (by (with_reducible repeat (first | apply Kd.R_alloc | apply Kd.R_drewN | apply Kd.R_drew)); exact (Kd.R_mono (Kd.R_mono (Kd.R_far (p := ⟨gb329, 1, none⟩) (Kd.R_far (p := ⟨gb329, 0, none⟩) (Kd.R_far (p := ⟨gb328, 1, none⟩) (Kd.R_far (p := ⟨gb328, 0, none⟩) (Kd.R_types (Kd.R_types HO321.out BK328.out (by decide)) BK329.out (by decide)) (fun _ hk => hk.1.2) (.slice Ao16 t316.length co16)) (fun _ hk => hk.1.2) (.slice Ao19 t319.length co19)) (fun _ hk => hk.2) (.slice Ao20 t322.length co20)) (fun _ hk => hk.2) (.slice Ao22 t325.length co22)) (fun _ h_ => h_.1)) (fun _ h_ => h_.1))) (Kd.R_base ho1) hb); have n2_ := Aside0.mk (Kd.R_elder' (by (with_reducible repeat (first | apply Kd.R_alloc | apply Kd.R_drewN | apply Kd.R_drew)); exact (Kd.R_mono (Kd.R_mono (Kd.R_far (p := ⟨gb329, 1, none⟩) (Kd.R_far (p := ⟨gb329, 0, none⟩) (Kd.R_far (p := ⟨gb328, 1, none⟩) (Kd.R_far (p := ⟨gb328, 0, none⟩) (Kd.R_types (Kd.R_types HO324.out BK328.out (by decide)) BK329.out (by decide)) (fun _ hk => hk.1.2) (.slice Ao16 t316.length co16)) (fun _ hk => hk.1.2) (.slice Ao19 t319.length co19)) (fun _ hk => hk.2) (.slice Ao20 t322.length co20)) (fun _ hk => hk.2) (.slice Ao22 t325.length co22)) (fun _ h_ => h_.1)) (fun _ h_ => h_.1))) (Kd.R_base ho0) hb); have n3_ := Aside0.mk (Kd.R_elder' (by (with_reducible repeat (first | apply Kd.R_alloc | apply Kd.R_drewN | apply Kd.R_drew)); exact (Kd.R_mono (Kd.R_mono (Kd.R_far (p := ⟨gb329, 1, none⟩) (Kd.R_far (p := ⟨gb329, 0, none⟩) (Kd.R_far (p := ⟨gb328, 1, none⟩) (Kd.R_far (p := ⟨gb328, 0, none⟩) (Kd.R_types (Kd.R_types HO327.out BK328.out (by decide)) BK329.out (by decide)) (fun _ hk => hk.1.2) (.slice Ao16 t316.length co16)) (fun _ hk => hk.1.2) (.slice Ao19 t319.length co19)) (fun _ hk => hk.2) (.slice Ao20 t322.length co20)) (fun _ hk => hk.2) (.slice Ao22 t325.length co22)) (fun _ h_ => h_.1)) (fun _ h_ => h_.1))) (Kd.R_base ho1) hb); have n4_ := Aside0.mk (Kd.R_lower (Kd.R_new' (Kd.R_new' ho0 (Kd.R_lt (by (with_reducible repeat (first | apply Kd.R_alloc | apply Kd.R_drewN | apply Kd.R_drew)); exact (Kd.R_mono (Kd.R_mono (Kd.R_far (p := ⟨gb329, 1, none⟩) (Kd.R_far (p := ⟨gb329, 0, none⟩) (Kd.R_far (p := ⟨gb328, 1, none⟩) (Kd.R_far (p := ⟨gb328, 0, none⟩) (Kd.R_types (Kd.R_types HO318.out BK328.out (by decide)) BK329.out (by decide)) (fun _ hk => hk.1.2) (.slice Ao16 t316.length co16)) (fun _ hk => hk.1.2) (.slice Ao19 t319.length co19)) (fun _ hk => hk.2) (.slice Ao20 t322.length co20)) (fun _ hk => hk.2) (.slice Ao22 t325.length co22)) (fun _ h_ => h_.1)) (fun _ h_ => h_.1))))) (Kd.R_lt (by (with_reducible repeat (first | apply Kd.R_alloc | apply Kd.R_drewN | apply Kd.R_drew)); exact (Kd.R_mono (Kd.R_mono (Kd.R_far (p := ⟨gb329, 1, none⟩) (Kd.R_far (p := ⟨gb329, 0, none⟩) (Kd.R_far (p := ⟨gb328, 1, none⟩) (Kd.R_far (p := ⟨gb328, 0, none⟩) (Kd.R_types (Kd.R_types HO324.out BK328.out (by decide)) BK329.out (by decide)) (fun _ hk => hk.1.2) (.slice Ao16 t316.length co16)) (fun _ hk => hk.1.2) (.slice Ao19 t319.length co19)) (fun _ hk => hk.2) (.slice Ao20 t322.length co20)) (fun _ hk => hk.2) (.slice Ao22 t325.length co22)) (fun _ h_ => h_.1)) (fun _ h_ => h_.1))))) (below_size (by repeat (first | (with_reducible first | exact HB.out | apply below_alloc | apply pw_below_drewN | apply below_drew1 | refine below_set ?_ GE328.out | refine below_set ?_ GE329.out) | exact HB.out)))); have n5_ := Aside0.mk (Kd.R_lower (Kd.R_new' (Kd.R_new' ho1 (Kd.R_lt (by (with_reducible repeat (first | apply Kd.R_alloc | apply Kd.R_drewN | apply Kd.R_drew)); exact (Kd.R_mono (Kd.R_mono (Kd.R_far (p := ⟨gb329, 1, none⟩) (Kd.R_far (p := ⟨gb329, 0, none⟩) (Kd.R_far (p := ⟨gb328, 1, none⟩) (Kd.R_far (p := ⟨gb328, 0, none⟩) (Kd.R_types (Kd.R_types HO321.out BK328.out (by decide)) BK329.out (by decide)) (fun _ hk => hk.1.2) (.slice Ao16 t316.length co16)) (fun _ hk => hk.1.2) (.slice Ao19 t319.length co19)) (fun _ hk => hk.2) (.slice Ao20 t322.length co20)) (fun _ hk => hk.2) (.slice Ao22 t325.length co22)) (fun _ h_ => h_.1)) (fun _ h_ => h_.1))))) (Kd.R_lt (by (with_reducible repeat (first | apply Kd.R_alloc | apply Kd.R_drewN | apply Kd.R_drew)); exact (Kd.R_mono (Kd.R_mono (Kd.R_far (p := ⟨gb329, 1, none⟩) (Kd.R_far (p := ⟨gb329, 0, none⟩) (Kd.R_far (p := ⟨gb328, 1, none⟩) (Kd.R_far (p := ⟨gb328, 0, none⟩) (Kd.R_types (Kd.R_types HO327.out BK328.out (by decide)) BK329.out (by decide)) (fun _ hk => hk.1.2) (.slice Ao16 t316.length co16)) (fun _ hk => hk.1.2) (.slice Ao19 t319.length co19)) (fun _ hk => hk.2) (.slice Ao20 t322.length co20)) (fun _ hk => hk.2) (.slice Ao22 t325.length co22)) (fun _ h_ => h_.1)) (fun _ h_ => h_.1))))) (below_size (by repeat (first | (with_reducible first | exact HB.out | apply below_alloc | apply pw_below_drewN | apply below_drew1 | refine below_set ?_ GE328.out | refine below_set ?_ GE329.out) | exact HB.out)))); have n6_ := Aside0.mk (blk_below (g := gb328) (o := .cells #[.slice Ao16 t316.length co16, .slice Ao19 t319.length co19] 25 (0, 0)) (by (repeat ((with_reducible repeat (first | refine blk_drewN ?_ _ | refine blk_drew ?_ | refine blk_alloc ?_ _)); with_reducible refine blk_far ?_ NB328_329.out _)); (with_reducible repeat (first | refine blk_drewN ?_ _ | refine blk_drew ?_ | refine blk_alloc ?_ _)); refine blk_put (cs := #[.slice Ao16 t316.length co16, .slice none 0 0]) ?_ 1 _ rfl; (with_reducible repeat (first | refine blk_drewN ?_ _ | refine blk_drew ?_ | refine blk_alloc ?_ _)); refine blk_put (cs := #[.slice none 0 0, .slice none 0 0]) ?_ 0 _ rfl; (with_reducible repeat (first | refine blk_drewN ?_ _ | refine blk_drew ?_ | refine blk_alloc ?_ _)); exact BK328.out) hb); have n7_ := Aside0.mk (blk_below (g := gb329) (o := .cells #[.slice Ao20 t322.length co20, .slice Ao22 t325.length co22] 25 (0, 0)) (by (with_reducible repeat (first | refine blk_drewN ?_ _ | refine blk_drew ?_ | refine blk_alloc ?_ _)); refine blk_put (cs := #[.slice Ao20 t322.length co20, .slice none 0 0]) ?_ 1 _ rfl; (with_reducible repeat (first | refine blk_drewN ?_ _ | refine blk_drew ?_ | refine blk_alloc ?_ _)); refine blk_put (cs := #[.slice none 0 0, .slice none 0 0]) ?_ 0 _ rfl; (repeat ((with_reducible repeat (first | refine blk_drewN ?_ _ | refine blk_drew ?_ | refine blk_alloc ?_ _)); with_reducible refine blk_far ?_ NB329_328.out _)); (with_reducible repeat (first | refine blk_drewN ?_ _ | refine blk_drew ?_ | refine blk_alloc ?_ _)); exact BK329.out) hb); have n8_ := Aside0.mk (below_step (by repeat (first | (with_reducible first | exact HB.out | apply below_alloc | apply pw_below_drewN | apply below_drew1 | refine below_set ?_ GE328.out | refine below_set ?_ GE329.out) | exact HB.out)) hb); clear HO318; clear HO321; clear HO324; clear HO327; clear BK328; clear BK329; clear HB; have HO318 := n0_; have HO321 := n1_; have HO324 := n2_; have HO327 := n3_; have HO332 := n4_; have HO335 := n5_; have BK328 := n6_; have BK329 := n7_; have HB := n8_; clear n0_ n1_ n2_ n3_ n4_ n5_ n6_ n7_ n8_; (try clear hb); (try clear hb2); (try clear hk); (try clear hi); (try clear ho0); (try clear ho1)) | ((with_reducible refine gate_dst (N := 11) rfl ?_); refine box_event ?hg (N := 11) ?hd (cs := #[.slice none 0 0, .slice none 0 0]) (t := 25) ?hr ?_; (case hd => rfl); (case hg => rfl); (case hr => first | (go_simp; done) | (go_simp; rfl)); intro gb336 hg w24 hbox hb; have n0_ := Aside0.mk (Kd.R_below (by (with_reducible repeat (first | apply Kd.R_alloc | apply Kd.R_drewN | apply Kd.R_drew)); exact HO318.out) hb); have n1_ := Aside0.mk (Kd.R_below (by (with_reducible repeat (first | apply Kd.R_alloc | apply Kd.R_drewN | apply Kd.R_drew)); exact HO321.out) hb); have n2_ := Aside0.mk (Kd.R_below (by (with_reducible repeat (first | apply Kd.R_alloc | apply Kd.R_drewN | apply Kd.R_drew)); exact HO324.out) hb); have n3_ := Aside0.mk (Kd.R_below (by (with_reducible repeat (first | apply Kd.R_alloc | apply Kd.R_drewN | apply Kd.R_drew)); exact HO327.out) hb); have n4_ := Aside0.mk (Kd.R_below (by (with_reducible repeat (first | apply Kd.R_alloc | apply Kd.R_drewN | apply Kd.R_drew)); exact HO332.out) hb); have n5_ := Aside0.mk (Kd.R_below (by (with_reducible repeat (first | apply Kd.R_alloc | apply Kd.R_drewN | apply Kd.R_drew)); exact HO335.out) hb); have n6_ := Aside0.mk (blk_below (g := gb328) (pk BK328) hb); have n7_ := Aside0.mk (blk_below (g := gb329) (pk BK329) hb); have n8_ := Aside0.mk (below_step (by repeat (first | (with_reducible first | exact HB.out | apply below_alloc | apply pw_below_drewN | apply below_drew1 | refine below_set ?_ GE328.out | refine below_set ?_ GE329.out) | exact HB.out)) hb); have n9_ := Aside0.mk (hbox); have n10_ := Aside0.mk ((by rw [hg]; exact (below_size (by repeat (first | (with_reducible first | exact HB.out | apply below_alloc | apply pw_below_drewN | apply below_drew1 | refine below_set ?_ GE328.out | refine below_set ?_ GE329.out) | exact HB.out))) : w.heap.size ≤ gb336)); have n11_ := Aside0.mk ((by rw [hg]; exact (below_size (by repeat (first | (with_reducible first | exact HB.out | apply below_alloc | apply pw_below_drewN | apply below_drew1 | refine below_set ?_ GE328.out | refine below_set ?_ GE329.out) | exact HB.out))) : w.heap.size ≤ gb336)); have n12_ := Aside0.mk ((ne_lt hg (pk BK328) : gb328 ≠ gb336)); have n13_ := Aside0.mk ((ne_gt hg (pk BK328) : gb336 ≠ gb328)); have n14_ := Aside0.mk ((ne_lt hg (pk BK329) : gb329 ≠ gb336)); have n15_ := Aside0.mk ((ne_gt hg (pk BK329) : gb336 ≠ gb329)); clear HO318; clear HO321; clear HO324; clear HO327; clear HO332; clear HO335; clear BK328; clear BK329; clear HB; have HO318 := n0_; have HO321 := n1_; have HO324 := n2_; have HO327 := n3_; have HO332 := n4_; have HO335 := n5_; have BK328 := n6_; have BK329 := n7_; have HB := n8_; have BK336 := n9_; have GW336 := n10_; have GE336 := n11_; have NB328_336 := n12_; have NB336_328 := n13_; have NB329_336 := n14_; have NB336_329 := n15_; clear n0_ n1_ n2_ n3_ n4_ n5_ n6_ n7_ n8_ n9_ n10_ n11_ n12_ n13_ n14_ n15_; clear hb hbox hg; obtain ⟨Ao25, co25, eo25⟩ := Kd.R_slice HO332.out; subst eo25; have hnb26 := NB336_328.out; have hnc26 := NB328_336.out; have hnb27 := NB336_329.out; have hnc27 := NB329_336.out; have hcz28_0 : w24.cell? ⟨gb336, 0, none⟩ = some (.slice none 0 0) := bc BK336 0; have hcz28_1 : w24.cell? ⟨gb336, 1, none⟩ = some (.slice none 0 0) := bc BK336 1; have hfz28_0 := blk_frozen BK336.out 0; have hfz28_1 := blk_frozen BK336.out 1; obtain ⟨Ao29, co29, eo29⟩ := Kd.R_slice HO335.out; subst eo29))
    (try simp only [Act.put, List.setIfInBounds_toArray, List.set_cons_zero, List.set_cons_succ])
    go_cut [] (fun wc => ∃ (kq : Nat) (x337001_9 : List (S35)) (u337001 : Value), Aside0 (damperlaw5_TableSame.j0 kq t316 t319 t322 t325 t330 x337001_9 = some r) ∧ Aside0 (kq ≤ k) ∧ Aside0 (Kd.R k32 32 wc w.heap.size (fun k_ => some k_ ≠ ((.slice Ao20 t322.length co20) : Value).ownBlock ∧ some k_ ≠ ((.slice Ao25 t330.length co25) : Value).ownBlock) (.slice Ao16 t316.length co16) t316) ∧ Aside0 (Kd.R k35 35 wc w.heap.size (fun k_ => some k_ ≠ ((.slice Ao22 t325.length co22) : Value).ownBlock ∧ some k_ ≠ (u337001 : Value).ownBlock) (.slice Ao19 t319.length co19) t319) ∧ Aside0 (Kd.R k32 32 wc w.heap.size (fun k_ => some k_ ≠ ((.slice Ao16 t316.length co16) : Value).ownBlock ∧ some k_ ≠ ((.slice Ao25 t330.length co25) : Value).ownBlock) (.slice Ao20 t322.length co20) t322) ∧ Aside0 (Kd.R k35 35 wc w.heap.size (fun k_ => some k_ ≠ ((.slice Ao19 t319.length co19) : Value).ownBlock ∧ some k_ ≠ (u337001 : Value).ownBlock) (.slice Ao22 t325.length co22) t325) ∧ Aside0 (Kd.R k32 32 wc w.heap.size (fun k_ => some k_ ≠ ((.slice Ao16 t316.length co16) : Value).ownBlock ∧ some k_ ≠ ((.slice Ao20 t322.length co20) : Value).ownBlock) (.slice Ao25 t330.length co25) t330) ∧ Aside0 (Kd.R k35 35 wc w.heap.size (fun k_ => some k_ ≠ ((.slice Ao19 t319.length co19) : Value).ownBlock ∧ some k_ ≠ ((.slice Ao22 t325.length co22) : Value).ownBlock) u337001 x337001_9) ∧ Aside0 (wc.heap[gb328]? = some (.cells #[(.slice Ao16 t316.length co16), (.slice Ao19 t319.length co19)] 25 (0, 0))) ∧ Aside0 (wc.heap[gb329]? = some (.cells #[(.slice Ao20 t322.length co20), (.slice Ao22 t325.length co22)] 25 (0, 0))) ∧ Aside0 (wc.heap[gb336]? = some (.cells #[(.slice Ao25 t330.length co25), u337001] 25 (0, 0))) ∧ Aside0 (Below w.heap.size w wc))
    case first =>
      have H := HC10.out
      clear HC10
      by_cases c30 : t333.length < 4398046511104
      rotate_left
      · rw [if_neg c30] at H
        exact absurd H (by simp)
      rw [if_pos c30] at H
      have LMc30 := Aside0.mk c30
      clear c30
      obtain ⟨y337, hy337⟩ : ∃ y_ : List (S35), y_ = (t333 ++ [(⟨(⟨#[122]⟩ : ByteArray), (⟨#[119, 101, 98, 45, 49]⟩ : ByteArray)⟩ : S35)]) := ⟨_, rfl⟩
      replace H : (damperlaw5_TableSame.j0 k t316 t319 t322 t325 t330 y337) = some r := by first | (rw [hy337]; with_reducible exact H) | (have H2_ := (Option.bind_some _ _).symm.trans H; rw [hy337]; with_reducible exact H2_) | (have H2_ := (Option.bind_some _ _).symm.trans H; with_reducible exact H2_) | with_reducible exact H | (rw [hy337]; exact H) | exact H
      have Ny337 := Aside0.mk hy337
      clear hy337
      have H' := Aside0.mk H
      clear H
      have hnb31 := NB336_328.out
      have hnc31 := NB328_336.out
      have hnb32 := NB336_329.out
      have hnc32 := NB329_336.out
      have hcz33_0 : w24.cell? ⟨gb336, 0, none⟩ = some (.slice none 0 0) := bc BK336 0
      have hcz33_1 : w24.cell? ⟨gb336, 1, none⟩ = some (.slice none 0 0) := bc BK336 1
      have hfz33_0 := blk_frozen BK336.out 0
      have hfz33_1 := blk_frozen BK336.out 1
      go_wp2_with (first | ((with_reducible refine gate_builtin (b := .append) (xs := #[.tmp 24, .tmp 26]) rfl ?_); at_builtin; refine Kd.R_append k35 (w0 := w) w.heap.size rfl (.tmp 24) (.tmp 26) 23 35 (.agg #[(.string ⟨#[]⟩), (.string ⟨#[]⟩)]) 32 rfl Tryd.underlying23 info35 rfl (by decide) (by omega) (.slice Ao29 t333.length co29) t333 (⟨(⟨#[122]⟩ : ByteArray), (⟨#[119, 101, 98, 45, 49]⟩ : ByteArray)⟩ : S35) [.string (⟨#[122]⟩ : ByteArray), .string (⟨#[119, 101, 98, 45, 49]⟩ : ByteArray)] (fun k_ => some k_ ≠ (.slice Ao19 t319.length co19 : Value).ownBlock ∧ some k_ ≠ (.slice Ao22 t325.length co22 : Value).ownBlock) (fun _ => False) rfl (by first | (go_simp; done) | (go_simp; rfl)) ?aP (fun _ hk => hk.elim) ?aF ?aO ?aB ?aS ?aL ?_; (case aP => exact k35_mkM _ _ _ (⟨(⟨#[122]⟩ : ByteArray), (⟨#[119, 101, 98, 45, 49]⟩ : ByteArray)⟩ : S35)); (case aB => exact (by repeat (first | (with_reducible first | exact HB.out | apply below_alloc | apply pw_below_drewN | apply below_drew1 | refine below_set ?_ GE328.out | refine below_set ?_ GE329.out | refine below_set ?_ GE336.out) | exact HB.out))); (case aF => exact (fun k_ hk => ⟨Kd.fresh' (Kd.R_lt (by (with_reducible repeat (first | apply Kd.R_alloc | apply Kd.R_drewN | apply Kd.R_drew)); exact (Kd.R_mono (Kd.R_far (p := ⟨gb336, 1, none⟩) (Kd.R_far (p := ⟨gb336, 0, none⟩) (Kd.R_types HO321.out BK336.out (by decide)) (fun _ hk => hk.2) (.slice Ao25 t330.length co25)) (fun _ hk => hk.2) (.slice Ao29 t333.length co29)) (fun _ h_ => h_.1)))) k_ hk, Kd.fresh' (Kd.R_lt (by (with_reducible repeat (first | apply Kd.R_alloc | apply Kd.R_drewN | apply Kd.R_drew)); exact (Kd.R_mono (Kd.R_far (p := ⟨gb336, 1, none⟩) (Kd.R_far (p := ⟨gb336, 0, none⟩) (Kd.R_types HO327.out BK336.out (by decide)) (fun _ hk => hk.2) (.slice Ao25 t330.length co25)) (fun _ hk => hk.2) (.slice Ao29 t333.length co29)) (fun _ h_ => h_.1)))) k_ hk⟩)); (case aO => exact (by (with_reducible repeat (first | apply Kd.R_alloc | apply Kd.R_drewN | apply Kd.R_drew)); exact Kd.R_mono (Kd.R_far (p := ⟨gb336, 1, none⟩) (Kd.R_far (p := ⟨gb336, 0, none⟩) (Kd.R_types HO335.out BK336.out (by decide)) (fun _ hk => hk.2) (.slice Ao25 t330.length co25)) (fun _ hk => hk.2) (.slice Ao29 t333.length co29)) (fun _ hk => ⟨hk.1.1.2, hk.1.2⟩))); (case aS => exact (below_size (by repeat (first | (with_reducible first | exact HB.out | apply below_alloc | apply pw_below_drewN | apply below_drew1 | refine below_set ?_ GE328.out | refine below_set ?_ GE329.out | refine below_set ?_ GE336.out) | exact HB.out)))); (case aL => have := LMc30.out; omega); intro v338 w34 ho hb hg hat; rw [← Ny337.out] at ho; have n0_ := Aside0.mk (Kd.R_over' (by (with_reducible repeat (first | apply Kd.R_alloc | apply Kd.R_drewN | apply Kd.R_drew)); exact (Kd.R_mono (Kd.R_far (p := ⟨gb336, 1, none⟩) (Kd.R_far (p := ⟨gb336, 0, none⟩) (Kd.R_types HO318.out BK336.out (by decide)) (fun _ hk => hk.2) (.slice Ao25 t330.length co25)) (fun _ hk => hk.2) (.slice Ao29 t333.length co29)) (fun _ h_ => h_.1))) (Kd.R_typed (by (with_reducible repeat (first | apply Kd.R_alloc | apply Kd.R_drewN | apply Kd.R_drew)); exact (Kd.R_mono (Kd.R_far (p := ⟨gb336, 1, none⟩) (Kd.R_far (p := ⟨gb336, 0, none⟩) (Kd.R_types HO335.out BK336.out (by decide)) (fun _ hk => hk.2) (.slice Ao25 t330.length co25)) (fun _ hk => hk.2) (.slice Ao29 t333.length co29)) (fun _ h_ => h_.1)))) (by decide) hg); have n1_ := Aside0.mk (Kd.R_after (ok := (fun k_ => some k_ ≠ (.slice Ao22 t325.length co22 : Value).ownBlock)) (by (with_reducible repeat (first | apply Kd.R_alloc | apply Kd.R_drewN | apply Kd.R_drew)); exact Kd.R_mono (Kd.R_far (p := ⟨gb336, 1, none⟩) (Kd.R_far (p := ⟨gb336, 0, none⟩) (Kd.R_types HO321.out BK336.out (by decide)) (fun _ hk => hk.2) (.slice Ao25 t330.length co25)) (fun _ hk => hk.2) (.slice Ao29 t333.length co29)) (fun _ hk => ⟨hk.1.1.2, hk.1.2⟩)) hg hat); have n2_ := Aside0.mk (Kd.R_over' (by (with_reducible repeat (first | apply Kd.R_alloc | apply Kd.R_drewN | apply Kd.R_drew)); exact (Kd.R_mono (Kd.R_far (p := ⟨gb336, 1, none⟩) (Kd.R_far (p := ⟨gb336, 0, none⟩) (Kd.R_types HO324.out BK336.out (by decide)) (fun _ hk => hk.2) (.slice Ao25 t330.length co25)) (fun _ hk => hk.2) (.slice Ao29 t333.length co29)) (fun _ h_ => h_.1))) (Kd.R_typed (by (with_reducible repeat (first | apply Kd.R_alloc | apply Kd.R_drewN | apply Kd.R_drew)); exact (Kd.R_mono (Kd.R_far (p := ⟨gb336, 1, none⟩) (Kd.R_far (p := ⟨gb336, 0, none⟩) (Kd.R_types HO335.out BK336.out (by decide)) (fun _ hk => hk.2) (.slice Ao25 t330.length co25)) (fun _ hk => hk.2) (.slice Ao29 t333.length co29)) (fun _ h_ => h_.1)))) (by decide) hg); have n3_ := Aside0.mk (Kd.R_after (ok := (fun k_ => some k_ ≠ (.slice Ao19 t319.length co19 : Value).ownBlock)) (by (with_reducible repeat (first | apply Kd.R_alloc | apply Kd.R_drewN | apply Kd.R_drew)); exact Kd.R_mono (Kd.R_far (p := ⟨gb336, 1, none⟩) (Kd.R_far (p := ⟨gb336, 0, none⟩) (Kd.R_types HO327.out BK336.out (by decide)) (fun _ hk => hk.2) (.slice Ao25 t330.length co25)) (fun _ hk => hk.2) (.slice Ao29 t333.length co29)) (fun _ hk => ⟨hk.1.1.2, hk.1.2⟩)) hg hat); have n4_ := Aside0.mk (blk_grown (g := gb328) (o := .cells #[.slice Ao16 t316.length co16, .slice Ao19 t319.length co19] 25 (0, 0)) (by (repeat ((with_reducible repeat (first | refine blk_drewN ?_ _ | refine blk_drew ?_ | refine blk_alloc ?_ _)); with_reducible refine blk_far ?_ NB328_336.out _)); (with_reducible repeat (first | refine blk_drewN ?_ _ | refine blk_drew ?_ | refine blk_alloc ?_ _)); exact BK328.out) hg (Kd.R_ne HO335.out BK328.out (by decide))); have n5_ := Aside0.mk (blk_grown (g := gb329) (o := .cells #[.slice Ao20 t322.length co20, .slice Ao22 t325.length co22] 25 (0, 0)) (by (repeat ((with_reducible repeat (first | refine blk_drewN ?_ _ | refine blk_drew ?_ | refine blk_alloc ?_ _)); with_reducible refine blk_far ?_ NB329_336.out _)); (with_reducible repeat (first | refine blk_drewN ?_ _ | refine blk_drew ?_ | refine blk_alloc ?_ _)); exact BK329.out) hg (Kd.R_ne HO335.out BK329.out (by decide))); have n6_ := Aside0.mk (Kd.R_over' (by (with_reducible repeat (first | apply Kd.R_alloc | apply Kd.R_drewN | apply Kd.R_drew)); exact (Kd.R_mono (Kd.R_far (p := ⟨gb336, 1, none⟩) (Kd.R_far (p := ⟨gb336, 0, none⟩) (Kd.R_types HO332.out BK336.out (by decide)) (fun _ hk => hk.2) (.slice Ao25 t330.length co25)) (fun _ hk => hk.2) (.slice Ao29 t333.length co29)) (fun _ h_ => h_.1))) (Kd.R_typed (by (with_reducible repeat (first | apply Kd.R_alloc | apply Kd.R_drewN | apply Kd.R_drew)); exact (Kd.R_mono (Kd.R_far (p := ⟨gb336, 1, none⟩) (Kd.R_far (p := ⟨gb336, 0, none⟩) (Kd.R_types HO335.out BK336.out (by decide)) (fun _ hk => hk.2) (.slice Ao25 t330.length co25)) (fun _ hk => hk.2) (.slice Ao29 t333.length co29)) (fun _ h_ => h_.1)))) (by decide) hg); have n7_ := Aside0.mk (blk_grown (g := gb336) (o := .cells #[.slice Ao25 t330.length co25, .slice Ao29 t333.length co29] 25 (0, 0)) (by (with_reducible repeat (first | refine blk_drewN ?_ _ | refine blk_drew ?_ | refine blk_alloc ?_ _)); refine blk_put (cs := #[.slice Ao25 t330.length co25, .slice none 0 0]) ?_ 1 _ rfl; (with_reducible repeat (first | refine blk_drewN ?_ _ | refine blk_drew ?_ | refine blk_alloc ?_ _)); refine blk_put (cs := #[.slice none 0 0, .slice none 0 0]) ?_ 0 _ rfl; (with_reducible repeat (first | refine blk_drewN ?_ _ | refine blk_drew ?_ | refine blk_alloc ?_ _)); exact BK336.out) hg (Kd.R_ne HO335.out BK336.out (by decide))); have n8_ := Aside0.mk (hb); have n9_ := Aside0.mk (ho); clear HO318; clear HO321; clear HO324; clear HO327; clear BK328; clear BK329; clear HO332; clear BK336; clear HB; clear HO335; have HO318 := n0_; have HO321 := n1_; have HO324 := n2_; have HO327 := n3_; have BK328 := n4_; have BK329 := n5_; have HO332 := n6_; have BK336 := n7_; have HB := n8_; have HO339 := n9_; clear n0_ n1_ n2_ n3_ n4_ n5_ n6_ n7_ n8_ n9_; clear ho hb hg hat; obtain ⟨Ao35, co35, eo35⟩ := Kd.R_slice HO339.out; subst eo35; have hcz36_0 : w34.cell? ⟨gb336, 0, none⟩ = some (.slice Ao25 t330.length co25) := bc BK336 0; have hcz36_1 : w34.cell? ⟨gb336, 1, none⟩ = some (.slice Ao29 t333.length co29) := bc BK336 1; have hfz36_0 := blk_frozen BK336.out 0; have hfz36_1 := blk_frozen BK336.out 1))
      go_meet
      case rel => exact ⟨_, (y337), (.slice Ao35 y337.length co35), H', ⟨by first | omega | exact Nat.le_refl _⟩, ⟨by (with_reducible repeat (first | apply Kd.R_alloc | apply Kd.R_drewN | apply Kd.R_drew)); exact Kd.R_mono (Kd.R_far (p := ⟨gb336, 1, none⟩) (Kd.R_types HO318.out BK336.out (by decide)) (fun _ hk => hk.2) (.slice Ao35 y337.length co35)) (fun _ hk => ⟨hk.1.1.2, hk.1.2⟩)⟩, ⟨by (with_reducible repeat (first | apply Kd.R_alloc | apply Kd.R_drewN | apply Kd.R_drew)); exact Kd.R_mono (Kd.R_far (p := ⟨gb336, 1, none⟩) (Kd.R_types HO321.out BK336.out (by decide)) (fun _ hk => hk.2) (.slice Ao35 y337.length co35)) (fun _ hk => ⟨hk.1.1, hk.1.2⟩)⟩, ⟨by (with_reducible repeat (first | apply Kd.R_alloc | apply Kd.R_drewN | apply Kd.R_drew)); exact Kd.R_mono (Kd.R_far (p := ⟨gb336, 1, none⟩) (Kd.R_types HO324.out BK336.out (by decide)) (fun _ hk => hk.2) (.slice Ao35 y337.length co35)) (fun _ hk => ⟨hk.1.1.2, hk.1.2⟩)⟩, ⟨by (with_reducible repeat (first | apply Kd.R_alloc | apply Kd.R_drewN | apply Kd.R_drew)); exact Kd.R_mono (Kd.R_far (p := ⟨gb336, 1, none⟩) (Kd.R_types HO327.out BK336.out (by decide)) (fun _ hk => hk.2) (.slice Ao35 y337.length co35)) (fun _ hk => ⟨hk.1.1, hk.1.2⟩)⟩, ⟨by (with_reducible repeat (first | apply Kd.R_alloc | apply Kd.R_drewN | apply Kd.R_drew)); exact Kd.R_mono (Kd.R_far (p := ⟨gb336, 1, none⟩) (Kd.R_types HO332.out BK336.out (by decide)) (fun _ hk => hk.2) (.slice Ao35 y337.length co35)) (fun _ hk => ⟨hk.1.1.2, hk.1.2⟩)⟩, ⟨by (with_reducible repeat (first | apply Kd.R_alloc | apply Kd.R_drewN | apply Kd.R_drew)); exact Kd.R_mono (Kd.R_far (p := ⟨gb336, 1, none⟩) (Kd.R_types HO339.out BK336.out (by decide)) (fun _ hk => hk.2) (.slice Ao35 y337.length co35)) (fun _ hk => ⟨hk.1.1, hk.1.2⟩)⟩, ⟨by (with_reducible repeat (first | refine blk_drewN ?_ _ | refine blk_drew ?_ | refine blk_alloc ?_ _)); refine blk_far ?_ NB328_336.out _; (with_reducible repeat (first | refine blk_drewN ?_ _ | refine blk_drew ?_ | refine blk_alloc ?_ _)); exact BK328.out⟩, ⟨by (with_reducible repeat (first | refine blk_drewN ?_ _ | refine blk_drew ?_ | refine blk_alloc ?_ _)); refine blk_far ?_ NB329_336.out _; (with_reducible repeat (first | refine blk_drewN ?_ _ | refine blk_drew ?_ | refine blk_alloc ?_ _)); exact BK329.out⟩, ⟨by (with_reducible repeat (first | refine blk_drewN ?_ _ | refine blk_drew ?_ | refine blk_alloc ?_ _)); refine blk_put (cs := #[.slice Ao25 t330.length co25, .slice Ao29 t333.length co29]) ?_ 1 _ rfl; (with_reducible repeat (first | refine blk_drewN ?_ _ | refine blk_drew ?_ | refine blk_alloc ?_ _)); exact BK336.out⟩, ⟨by repeat (first | (with_reducible first | exact HB.out | apply below_alloc | apply pw_below_drewN | apply below_drew1 | refine below_set ?_ GE328.out | refine below_set ?_ GE329.out | refine below_set ?_ GE336.out) | exact HB.out)⟩⟩
    case rest =>
      clear HC10
      try clear c1
      try clear c2
      try clear p2
      try clear c3
      try clear c6
      try clear c9
      try clear c11
      try clear c17
      try clear c26
      try clear c27
      try clear c30
      try clear c31
      try clear c32
      try clear hcz18_0
      try clear hcz18_1
      try clear hcz21_0
      try clear hcz21_1
      try clear hcz28_0
      try clear hcz28_1
      try clear hcz33_0
      try clear hcz33_1
      try clear hcz36_0
      try clear hcz36_1
      try clear hfz18_0
      try clear hfz18_1
      try clear hfz21_0
      try clear hfz21_1
      try clear hfz28_0
      try clear hfz28_1
      try clear hfz33_0
      try clear hfz33_1
      try clear hfz36_0
      try clear hfz36_1
      obtain ⟨kq, x337001_9, u337001, HA, HJ9, HO_329000, HO_329001, HO_330000, HO_330001, HO_337000, HO_337001, BK328, BK329, BK336, HB⟩ := hcut
      cases kq with
      | zero => exact absurd HA.out (by simp [damperlaw5_TableSame.j0])
      | succ kj9 =>
        have H := HA.out
        clear HA
        simp only [damperlaw5_TableSame.j0] at H
        replace H := Option.bind_eq_some_iff.mp H
        obtain ⟨t340, A370, H⟩ := H
        replace H : ((table_Text.f kj9 t316 t319).bind fun t341 => ((table_Text.f kj9 t322 t325).bind fun t342 => (if (t340 == (t341.toList == t342.toList)) = true then ((table_Same.f kj9 t316 t319 t330 x337001_9).bind fun t343 => (if t343 = true then (some false) else ((table_Same.f kj9 t330 x337001_9 t316 t319).bind fun t344 => (if t344 = true then (some false) else ((table_Same.f kj9 t322 t325 t316 t319).bind fun t345 => ((table_Same.f kj9 t316 t319 t322 t325).bind fun t346 => (some (t345 == t346)))))))) else (some false)))) = some r := H
        have A37 := Aside0.mk A370
        clear A370
        replace H := Option.bind_eq_some_iff.mp H
        obtain ⟨t341, A380, H⟩ := H
        replace H : ((table_Text.f kj9 t322 t325).bind fun t342 => (if (t340 == (t341.toList == t342.toList)) = true then ((table_Same.f kj9 t316 t319 t330 x337001_9).bind fun t343 => (if t343 = true then (some false) else ((table_Same.f kj9 t330 x337001_9 t316 t319).bind fun t344 => (if t344 = true then (some false) else ((table_Same.f kj9 t322 t325 t316 t319).bind fun t345 => ((table_Same.f kj9 t316 t319 t322 t325).bind fun t346 => (some (t345 == t346)))))))) else (some false))) = some r := H
        have A38 := Aside0.mk A380
        clear A380
        replace H := Option.bind_eq_some_iff.mp H
        obtain ⟨t342, A390, H⟩ := H
        replace H : (if (t340 == (t341.toList == t342.toList)) = true then ((table_Same.f kj9 t316 t319 t330 x337001_9).bind fun t343 => (if t343 = true then (some false) else ((table_Same.f kj9 t330 x337001_9 t316 t319).bind fun t344 => (if t344 = true then (some false) else ((table_Same.f kj9 t322 t325 t316 t319).bind fun t345 => ((table_Same.f kj9 t316 t319 t322 t325).bind fun t346 => (some (t345 == t346)))))))) else (some false)) = some r := H
        have A39 := Aside0.mk A390
        clear A390
        by_cases c40 : (t340 == (t341.toList == t342.toList)) = true
        · rw [if_pos c40] at H
          have c40b0 : (t340 == (t341.toList == t342.toList)) = true := c40
          (try (have c40b1 : decide (t340 = (t341.toList == t342.toList)) = true := by simpa using c40))
          (try (have c40b2 : (t340 == (t341.toList == t342.toList)) = true := by simpa using c40))
          clear c40
          replace H := Option.bind_eq_some_iff.mp H
          obtain ⟨t343, A410, H⟩ := H
          replace H : (if t343 = true then (some false) else ((table_Same.f kj9 t330 x337001_9 t316 t319).bind fun t344 => (if t344 = true then (some false) else ((table_Same.f kj9 t322 t325 t316 t319).bind fun t345 => ((table_Same.f kj9 t316 t319 t322 t325).bind fun t346 => (some (t345 == t346))))))) = some r := H
          have A41 := Aside0.mk A410
          clear A410
          by_cases c42 : t343 = true
          · subst c42
            have H1 : (some false) = some r := by rw [if_pos rfl] at H; exact H
            clear H
            have H := H1
            clear H1
            exact absurd (Option.some.inj H) (by rw [hr0_.out]; decide)
          · replace c42 := Bool.eq_false_iff.mpr c42
            subst c42
            have H1 : ((table_Same.f kj9 t330 x337001_9 t316 t319).bind fun t344 => (if t344 = true then (some false) else ((table_Same.f kj9 t322 t325 t316 t319).bind fun t345 => ((table_Same.f kj9 t316 t319 t322 t325).bind fun t346 => (some (t345 == t346)))))) = some r := by rw [if_neg (show ¬ (false = true) by decide)] at H; exact H
            clear H
            have H := H1
            clear H1
            replace H := Option.bind_eq_some_iff.mp H
            obtain ⟨t344, A430, H⟩ := H
            replace H : (if t344 = true then (some false) else ((table_Same.f kj9 t322 t325 t316 t319).bind fun t345 => ((table_Same.f kj9 t316 t319 t322 t325).bind fun t346 => (some (t345 == t346))))) = some r := H
            have A43 := Aside0.mk A430
            clear A430
            by_cases c44 : t344 = true
            · subst c44
              have H1 : (some false) = some r := by rw [if_pos rfl] at H; exact H
              clear H
              have H := H1
              clear H1
              exact absurd (Option.some.inj H) (by rw [hr0_.out]; decide)
            · replace c44 := Bool.eq_false_iff.mpr c44
              subst c44
              have H1 : ((table_Same.f kj9 t322 t325 t316 t319).bind fun t345 => ((table_Same.f kj9 t316 t319 t322 t325).bind fun t346 => (some (t345 == t346)))) = some r := by rw [if_neg (show ¬ (false = true) by decide)] at H; exact H
              clear H
              have H := H1
              clear H1
              replace H := Option.bind_eq_some_iff.mp H
              obtain ⟨t345, A450, H⟩ := H
              replace H : ((table_Same.f kj9 t316 t319 t322 t325).bind fun t346 => (some (t345 == t346))) = some r := H
              have A45 := Aside0.mk A450
              clear A450
              replace H := Option.bind_eq_some_iff.mp H
              obtain ⟨t346, A460, H⟩ := H
              replace H : (some (t345 == t346)) = some r := H
              have A46 := Aside0.mk A460
              clear A460
              obtain rfl := Option.some.inj H
              try go_wp2
              replace HO_329000 := Aside0.mk (Kd.R_drew HO_329000.out)
              replace HO_329001 := Aside0.mk (Kd.R_drew HO_329001.out)
              replace HO_330000 := Aside0.mk (Kd.R_drew HO_330000.out)
              replace HO_330001 := Aside0.mk (Kd.R_drew HO_330001.out)
              replace HO_337000 := Aside0.mk (Kd.R_drew HO_337000.out)
              replace HO_337001 := Aside0.mk (Kd.R_drew HO_337001.out)
              replace BK328 := Aside0.mk (blk_drew BK328.out)
              replace BK329 := Aside0.mk (blk_drew BK329.out)
              replace BK336 := Aside0.mk (blk_drew BK336.out)
              replace HB := Aside0.mk (below_drew1 HB.out)
              refine start_ (n := 31) (S := fun w' => w'.cell? ⟨gb328, 0, none⟩ = some (.slice Ao16 t316.length co16) ∧ w'.cell? ⟨gb328, 1, none⟩ = some (.slice Ao19 t319.length co19) ∧ w'.cell? ⟨gb329, 0, none⟩ = some (.slice Ao20 t322.length co20) ∧ w'.cell? ⟨gb329, 1, none⟩ = some (.slice Ao22 t325.length co22) ∧ w'.cell? ⟨gb336, 0, none⟩ = some (.slice Ao25 t330.length co25) ∧ w'.cell? ⟨gb336, 1, none⟩ = some (u337001)) (ds := []) #[false, false, false, false, false, false, false, false, false, false, false, false, false, false, false, false, false, false, false, false, false, false, false, false, false, false, false, false, false, false, false] (by kernel_rfl) rfl rfl ⟨bc BK328 0, bc BK328 1, bc BK329 0, bc BK329 1, bc BK336 0, bc BK336 1⟩ (fun hHeld => ?_); refine with_tabW damperlaw5_TableSame.tab6 damperlaw5_TableSame.bits6 (fun HT_ HW_ => ?_)
              generalize wc.drew = w47 at HO_329000 HO_329001 HO_330000 HO_330001 HO_337000 HO_337001 BK328 BK329 BK336 HB hHeld ⊢
              refine take_ (i := 0) (N := some 29) (v := ?_) (a' := ?_) #[true, false, false, false, false, false, false, false, false, false, false, false, false, false, false, false, false, false, false, false, false, false, false, false, false, false, false, false, false, false, false] rfl rfl (take_ofW HT_.out HW_.out (by kernel_rfl)) (fun _ _ _ h => h) (Or.inl ⟨by rfl, ?_⟩) hHeld ?_ ?_
              rotate_left
              · rintro w' ⟨s0, s1, s2, s3, s4, s5⟩
                go_simp
                with_reducible rfl
              rotate_left
              · simp only [Act.put, List.setIfInBounds_toArray, List.set_cons_zero, List.set_cons_succ, i64_w, i32_w]
                rfl
              refine take_ (i := 1) (N := some 30) (v := ?_) (a' := ?_) #[true, true, false, false, false, false, false, false, false, false, false, false, false, false, false, false, false, false, false, false, false, false, false, false, false, false, false, false, false, false, false] rfl rfl (take_ofW HT_.out HW_.out (by kernel_rfl)) (fun _ _ _ h => h) (Or.inl ⟨by rfl, ?_⟩) hHeld ?_ ?_
              rotate_left
              · rintro w' ⟨s0, s1, s2, s3, s4, s5⟩
                go_simp
                with_reducible rfl
              rotate_left
              · simp only [Act.put, List.setIfInBounds_toArray, List.set_cons_zero, List.set_cons_succ, i64_w, i32_w]
                rfl
              refine take_ (i := 3) (N := some 32) (v := ?_) (a' := ?_) #[true, true, false, true, false, false, false, false, false, false, false, false, false, false, false, false, false, false, false, false, false, false, false, false, false, false, false, false, false, false, false] rfl rfl (take_ofW HT_.out HW_.out (by kernel_rfl)) (fun _ _ _ h => h) (Or.inl ⟨by rfl, ?_⟩) hHeld ?_ ?_
              rotate_left
              · rintro w' ⟨s0, s1, s2, s3, s4, s5⟩
                go_simp
                with_reducible rfl
              rotate_left
              · simp only [Act.put, List.setIfInBounds_toArray, List.set_cons_zero, List.set_cons_succ, i64_w, i32_w]
                rfl
              refine take_ (i := 5) (N := some 34) (v := ?_) (a' := ?_) #[true, true, false, true, false, true, false, false, false, false, false, false, false, false, false, false, false, false, false, false, false, false, false, false, false, false, false, false, false, false, false] rfl rfl (take_ofW HT_.out HW_.out (by kernel_rfl)) (fun _ _ _ h => h) (Or.inl ⟨by rfl, ?_⟩) hHeld ?_ ?_
              rotate_left
              · rintro w' ⟨s0, s1, s2, s3, s4, s5⟩
                go_simp
                with_reducible rfl
              rotate_left
              · simp only [Act.put, List.setIfInBounds_toArray, List.set_cons_zero, List.set_cons_succ, i64_w, i32_w]
                rfl
              refine one_ (i := 2) (N := some 31) #[true, true, true, true, false, true, false, false, false, false, false, false, false, false, false, false, false, false, false, false, false, false, false, false, false, false, false, false, false, false, false] rfl rfl (one_of HT_.out (by kernel_rfl)) (by decide) (fun K hK => ?_)
              refine goes_ Tryd.func17 (by kernel_rfl) rfl #[.agg #[.slice Ao16 t316.length co16, .slice Ao19 t319.length co19], .agg #[.slice Ao20 t322.length co20, .slice Ao22 t325.length co22]] (by rfl) rfl rfl (by (try simp only [List.map_toArray, List.map_cons, List.map_nil]); first | done | rfl | (simp only [List.length_drop, List.length_take]; rfl)) ?_
              with_reducible refine (table_Same.calls kj9 _ _ t316 _ _ t319 _ _ t322 _ _ t325 t340 _ ?side9 ?side1 ?side2 ?side3 ?side4 ?side5 ?side6 ?side7 ?side8 A37.out).mono ?_
              (case side1 => repeat (first | exact (Kd.R_reads' HO_329000.out).2.2 | (with_reducible refine Kd.C_alloc ?_ _) | (with_reducible refine Kd.C_drewN ?_ _) | (with_reducible refine Kd.C_drew ?_)))
              (case side2 => exact (Kd.R_reads' HO_329000.out).2.1)
              (case side3 => repeat (first | exact (Kd.R_reads' HO_329001.out).2.2 | (with_reducible refine Kd.C_alloc ?_ _) | (with_reducible refine Kd.C_drewN ?_ _) | (with_reducible refine Kd.C_drew ?_)))
              (case side4 => exact (Kd.R_reads' HO_329001.out).2.1)
              (case side5 => repeat (first | exact (Kd.R_reads' HO_330000.out).2.2 | (with_reducible refine Kd.C_alloc ?_ _) | (with_reducible refine Kd.C_drewN ?_ _) | (with_reducible refine Kd.C_drew ?_)))
              (case side6 => exact (Kd.R_reads' HO_330000.out).2.1)
              (case side7 => repeat (first | exact (Kd.R_reads' HO_330001.out).2.2 | (with_reducible refine Kd.C_alloc ?_ _) | (with_reducible refine Kd.C_drewN ?_ _) | (with_reducible refine Kd.C_drew ?_)))
              (case side8 => exact (Kd.R_reads' HO_330001.out).2.1)
              (case side9 => first | exact hLd_.out | exact hLd_ | exact ⟨LaidW.below hLd_.out (by repeat (first | (with_reducible first | exact HB.out | apply below_alloc | apply pw_below_drewN | apply below_drew1 | refine below_set ?_ GE328.out | refine below_set ?_ GE329.out | refine below_set ?_ GE336.out) | exact HB.out))⟩ | exact ⟨LaidW.below hLd_.out (by repeat (first | exact Below.refl _ _ | apply below_alloc | apply pw_below_drewN | apply below_drew1))⟩)
              rintro e w48 ⟨rfl, hb⟩
              refine ⟨_, rfl, ?_⟩
              replace HO_329000 := Aside0.mk (Kd.R_below (by (with_reducible repeat (first | apply Kd.R_alloc | apply Kd.R_drewN | apply Kd.R_drew)); exact HO_329000.out) hb)
              replace HO_329001 := Aside0.mk (Kd.R_below (by (with_reducible repeat (first | apply Kd.R_alloc | apply Kd.R_drewN | apply Kd.R_drew)); exact HO_329001.out) hb)
              replace HO_330000 := Aside0.mk (Kd.R_below (by (with_reducible repeat (first | apply Kd.R_alloc | apply Kd.R_drewN | apply Kd.R_drew)); exact HO_330000.out) hb)
              replace HO_330001 := Aside0.mk (Kd.R_below (by (with_reducible repeat (first | apply Kd.R_alloc | apply Kd.R_drewN | apply Kd.R_drew)); exact HO_330001.out) hb)
              replace HO_337000 := Aside0.mk (Kd.R_below (by (with_reducible repeat (first | apply Kd.R_alloc | apply Kd.R_drewN | apply Kd.R_drew)); exact HO_337000.out) hb)
              replace HO_337001 := Aside0.mk (Kd.R_below (by (with_reducible repeat (first | apply Kd.R_alloc | apply Kd.R_drewN | apply Kd.R_drew)); exact HO_337001.out) hb)
              replace BK328 := Aside0.mk (blk_below (g := gb328) (pk BK328) hb)
              replace BK329 := Aside0.mk (blk_below (g := gb329) (pk BK329) hb)
              replace BK336 := Aside0.mk (blk_below (g := gb336) (pk BK336) hb)
              replace HB := Aside0.mk (below_step (by repeat (first | (with_reducible first | exact HB.out | apply below_alloc | apply pw_below_drewN | apply below_drew1 | refine below_set ?_ GE328.out | refine below_set ?_ GE329.out | refine below_set ?_ GE336.out) | exact HB.out)) hb)
              (try clear hb)
              (try clear hb2)
              (try clear hk)
              (try clear hi)
              refine hK.out _ _ ⟨bc BK328 0, bc BK328 1, bc BK329 0, bc BK329 1, bc BK336 0, bc BK336 1⟩ (fun hHeld => ?_)
              clear hK K
              refine norm_ (a' := ?_) ?_ ?_
              rotate_left
              · show Act.put _ (some 31) _ = _
                simp only [Act.put, List.setIfInBounds_toArray, List.set_cons_zero, List.set_cons_succ, i64_w, i32_w]
                rfl
              refine one_ (i := 4) (N := some 33) #[true, true, true, true, true, true, false, false, false, false, false, false, false, false, false, false, false, false, false, false, false, false, false, false, false, false, false, false, false, false, false] rfl rfl (one_of HT_.out (by kernel_rfl)) (by decide) (fun K hK => ?_)
              refine goes_ Tryd.func18 (by kernel_rfl) rfl #[.agg #[.slice Ao16 t316.length co16, .slice Ao19 t319.length co19]] (by rfl) rfl rfl (by (try simp only [List.map_toArray, List.map_cons, List.map_nil]); first | done | rfl | (simp only [List.length_drop, List.length_take]; rfl)) ?_
              with_reducible refine (table_Text.calls kj9 _ _ t316 _ _ t319 t341 _ ?side5 ?side1 ?side2 ?side3 ?side4 A38.out).mono ?_
              (case side1 => repeat (first | exact (Kd.R_reads' HO_329000.out).2.2 | (with_reducible refine Kd.C_alloc ?_ _) | (with_reducible refine Kd.C_drewN ?_ _) | (with_reducible refine Kd.C_drew ?_)))
              (case side2 => exact (Kd.R_reads' HO_329000.out).2.1)
              (case side3 => repeat (first | exact (Kd.R_reads' HO_329001.out).2.2 | (with_reducible refine Kd.C_alloc ?_ _) | (with_reducible refine Kd.C_drewN ?_ _) | (with_reducible refine Kd.C_drew ?_)))
              (case side4 => exact (Kd.R_reads' HO_329001.out).2.1)
              (case side5 => first | exact hLd_.out | exact hLd_ | exact ⟨LaidW.below hLd_.out (by repeat (first | (with_reducible first | exact HB.out | apply below_alloc | apply pw_below_drewN | apply below_drew1 | refine below_set ?_ GE328.out | refine below_set ?_ GE329.out | refine below_set ?_ GE336.out) | exact HB.out))⟩ | exact ⟨LaidW.below hLd_.out (by repeat (first | exact Below.refl _ _ | apply below_alloc | apply pw_below_drewN | apply below_drew1))⟩)
              rintro e w49 ⟨rfl, hb⟩
              refine ⟨_, rfl, ?_⟩
              replace HO_329000 := Aside0.mk (Kd.R_below (by (with_reducible repeat (first | apply Kd.R_alloc | apply Kd.R_drewN | apply Kd.R_drew)); exact HO_329000.out) hb)
              replace HO_329001 := Aside0.mk (Kd.R_below (by (with_reducible repeat (first | apply Kd.R_alloc | apply Kd.R_drewN | apply Kd.R_drew)); exact HO_329001.out) hb)
              replace HO_330000 := Aside0.mk (Kd.R_below (by (with_reducible repeat (first | apply Kd.R_alloc | apply Kd.R_drewN | apply Kd.R_drew)); exact HO_330000.out) hb)
              replace HO_330001 := Aside0.mk (Kd.R_below (by (with_reducible repeat (first | apply Kd.R_alloc | apply Kd.R_drewN | apply Kd.R_drew)); exact HO_330001.out) hb)
              replace HO_337000 := Aside0.mk (Kd.R_below (by (with_reducible repeat (first | apply Kd.R_alloc | apply Kd.R_drewN | apply Kd.R_drew)); exact HO_337000.out) hb)
              replace HO_337001 := Aside0.mk (Kd.R_below (by (with_reducible repeat (first | apply Kd.R_alloc | apply Kd.R_drewN | apply Kd.R_drew)); exact HO_337001.out) hb)
              replace BK328 := Aside0.mk (blk_below (g := gb328) (pk BK328) hb)
              replace BK329 := Aside0.mk (blk_below (g := gb329) (pk BK329) hb)
              replace BK336 := Aside0.mk (blk_below (g := gb336) (pk BK336) hb)
              replace HB := Aside0.mk (below_step (by repeat (first | (with_reducible first | exact HB.out | apply below_alloc | apply pw_below_drewN | apply below_drew1 | refine below_set ?_ GE328.out | refine below_set ?_ GE329.out | refine below_set ?_ GE336.out) | exact HB.out)) hb)
              (try clear hb)
              (try clear hb2)
              (try clear hk)
              (try clear hi)
              refine hK.out _ _ ⟨bc BK328 0, bc BK328 1, bc BK329 0, bc BK329 1, bc BK336 0, bc BK336 1⟩ (fun hHeld => ?_)
              clear hK K
              refine norm_ (a' := ?_) ?_ ?_
              rotate_left
              · show Act.put _ (some 33) _ = _
                simp only [Act.put, List.setIfInBounds_toArray, List.set_cons_zero, List.set_cons_succ, i64_w, i32_w]
                rfl
              refine one_ (i := 6) (N := some 35) #[true, true, true, true, true, true, true, false, false, false, false, false, false, false, false, false, false, false, false, false, false, false, false, false, false, false, false, false, false, false, false] rfl rfl (one_of HT_.out (by kernel_rfl)) (by decide) (fun K hK => ?_)
              refine goes_ Tryd.func18 (by kernel_rfl) rfl #[.agg #[.slice Ao20 t322.length co20, .slice Ao22 t325.length co22]] (by rfl) rfl rfl (by (try simp only [List.map_toArray, List.map_cons, List.map_nil]); first | done | rfl | (simp only [List.length_drop, List.length_take]; rfl)) ?_
              with_reducible refine (table_Text.calls kj9 _ _ t322 _ _ t325 t342 _ ?side5 ?side1 ?side2 ?side3 ?side4 A39.out).mono ?_
              (case side1 => repeat (first | exact (Kd.R_reads' HO_330000.out).2.2 | (with_reducible refine Kd.C_alloc ?_ _) | (with_reducible refine Kd.C_drewN ?_ _) | (with_reducible refine Kd.C_drew ?_)))
              (case side2 => exact (Kd.R_reads' HO_330000.out).2.1)
              (case side3 => repeat (first | exact (Kd.R_reads' HO_330001.out).2.2 | (with_reducible refine Kd.C_alloc ?_ _) | (with_reducible refine Kd.C_drewN ?_ _) | (with_reducible refine Kd.C_drew ?_)))
              (case side4 => exact (Kd.R_reads' HO_330001.out).2.1)
              (case side5 => first | exact hLd_.out | exact hLd_ | exact ⟨LaidW.below hLd_.out (by repeat (first | (with_reducible first | exact HB.out | apply below_alloc | apply pw_below_drewN | apply below_drew1 | refine below_set ?_ GE328.out | refine below_set ?_ GE329.out | refine below_set ?_ GE336.out) | exact HB.out))⟩ | exact ⟨LaidW.below hLd_.out (by repeat (first | exact Below.refl _ _ | apply below_alloc | apply pw_below_drewN | apply below_drew1))⟩)
              rintro e w50 ⟨rfl, hb⟩
              refine ⟨_, rfl, ?_⟩
              replace HO_329000 := Aside0.mk (Kd.R_below (by (with_reducible repeat (first | apply Kd.R_alloc | apply Kd.R_drewN | apply Kd.R_drew)); exact HO_329000.out) hb)
              replace HO_329001 := Aside0.mk (Kd.R_below (by (with_reducible repeat (first | apply Kd.R_alloc | apply Kd.R_drewN | apply Kd.R_drew)); exact HO_329001.out) hb)
              replace HO_330000 := Aside0.mk (Kd.R_below (by (with_reducible repeat (first | apply Kd.R_alloc | apply Kd.R_drewN | apply Kd.R_drew)); exact HO_330000.out) hb)
              replace HO_330001 := Aside0.mk (Kd.R_below (by (with_reducible repeat (first | apply Kd.R_alloc | apply Kd.R_drewN | apply Kd.R_drew)); exact HO_330001.out) hb)
              replace HO_337000 := Aside0.mk (Kd.R_below (by (with_reducible repeat (first | apply Kd.R_alloc | apply Kd.R_drewN | apply Kd.R_drew)); exact HO_337000.out) hb)
              replace HO_337001 := Aside0.mk (Kd.R_below (by (with_reducible repeat (first | apply Kd.R_alloc | apply Kd.R_drewN | apply Kd.R_drew)); exact HO_337001.out) hb)
              replace BK328 := Aside0.mk (blk_below (g := gb328) (pk BK328) hb)
              replace BK329 := Aside0.mk (blk_below (g := gb329) (pk BK329) hb)
              replace BK336 := Aside0.mk (blk_below (g := gb336) (pk BK336) hb)
              replace HB := Aside0.mk (below_step (by repeat (first | (with_reducible first | exact HB.out | apply below_alloc | apply pw_below_drewN | apply below_drew1 | refine below_set ?_ GE328.out | refine below_set ?_ GE329.out | refine below_set ?_ GE336.out) | exact HB.out)) hb)
              (try clear hb)
              (try clear hb2)
              (try clear hk)
              (try clear hi)
              obtain ⟨Ao51, co51, eo51⟩ := Kd.R_slice HO_337001.out
              (first | subst eo51 | (injection eo51 with f1_ f2_ f3_; have f4_ := f1_.symm; have f5_ := f3_.symm; clear f1_ f2_ f3_; subst f4_; subst f5_))
              refine hK.out _ _ ⟨bc BK328 0, bc BK328 1, bc BK329 0, bc BK329 1, bc BK336 0, bc BK336 1⟩ (fun hHeld => ?_)
              clear hK K
              refine norm_ (a' := ?_) ?_ ?_
              rotate_left
              · show Act.put _ (some 35) _ = _
                simp only [Act.put, List.setIfInBounds_toArray, List.set_cons_zero, List.set_cons_succ, i64_w, i32_w]
                rfl
              refine pure_ (i := 7) (N := some 36) (v := ?_) (a' := ?_) #[true, true, true, true, true, true, true, true, false, false, false, false, false, false, false, false, false, false, false, false, false, false, false, false, false, false, false, false, false, false, false] rfl rfl (any_of HT_.out (by kernel_rfl)) (fun _ _ _ h => h) (Or.inl ⟨by rfl, ?_⟩) ?_ ?_
              rotate_left
              · intro w'
                go_simp
                with_reducible rfl
              rotate_left
              · simp only [Act.put, List.setIfInBounds_toArray, List.set_cons_zero, List.set_cons_succ, i64_w, i32_w]
                rfl
              refine pure_ (i := 8) (N := some 37) (v := ?_) (a' := ?_) #[true, true, true, true, true, true, true, true, true, false, false, false, false, false, false, false, false, false, false, false, false, false, false, false, false, false, false, false, false, false, false] rfl rfl (any_of HT_.out (by kernel_rfl)) (fun _ _ _ h => h) (Or.inl ⟨by rfl, ?_⟩) ?_ ?_
              rotate_left
              · intro w'
                go_simp
                with_reducible rfl
              rotate_left
              · simp only [Act.put, List.setIfInBounds_toArray, List.set_cons_zero, List.set_cons_succ, i64_w, i32_w]
                rfl
              refine pure_ (i := 9) (N := some 38) (v := ?_) (a' := ?_) #[true, true, true, true, true, true, true, true, true, true, false, false, false, false, false, false, false, false, false, false, false, false, false, false, false, false, false, false, false, false, false] rfl rfl (any_of HT_.out (by kernel_rfl)) (fun _ _ _ h => h) (Or.inl ⟨by rfl, ?_⟩) ?_ ?_
              rotate_left
              · intro w'
                go_simp
                with_reducible rfl
              rotate_left
              · simp only [Act.put, List.setIfInBounds_toArray, List.set_cons_zero, List.set_cons_succ, i64_w, i32_w]
                rfl
              refine take_ (i := 10) (N := some 39) (v := ?_) (a' := ?_) #[true, true, true, true, true, true, true, true, true, true, true, false, false, false, false, false, false, false, false, false, false, false, false, false, false, false, false, false, false, false, false] rfl rfl (take_ofW HT_.out HW_.out (by kernel_rfl)) (fun _ _ _ h => h) (Or.inl ⟨by rfl, ?_⟩) hHeld ?_ ?_
              rotate_left
              · rintro w' ⟨s0, s1, s2, s3, s4, s5⟩
                go_simp
                with_reducible rfl
              rotate_left
              · simp only [Act.put, List.setIfInBounds_toArray, List.set_cons_zero, List.set_cons_succ, i64_w, i32_w]
                rfl
              refine take_ (i := 11) (N := some 40) (v := ?_) (a' := ?_) #[true, true, true, true, true, true, true, true, true, true, true, true, false, false, false, false, false, false, false, false, false, false, false, false, false, false, false, false, false, false, false] rfl rfl (take_ofW HT_.out HW_.out (by kernel_rfl)) (fun _ _ _ h => h) (Or.inl ⟨by rfl, ?_⟩) hHeld ?_ ?_
              rotate_left
              · rintro w' ⟨s0, s1, s2, s3, s4, s5⟩
                go_simp
                with_reducible rfl
              rotate_left
              · simp only [Act.put, List.setIfInBounds_toArray, List.set_cons_zero, List.set_cons_succ, i64_w, i32_w]
                rfl
              refine one_ (i := 12) (N := some 41) #[true, true, true, true, true, true, true, true, true, true, true, true, true, false, false, false, false, false, false, false, false, false, false, false, false, false, false, false, false, false, false] rfl rfl (one_of HT_.out (by kernel_rfl)) (by decide) (fun K hK => ?_)
              refine goes_ Tryd.func17 (by kernel_rfl) rfl #[.agg #[.slice Ao16 t316.length co16, .slice Ao19 t319.length co19], .agg #[.slice Ao25 t330.length co25, .slice Ao51 x337001_9.length co51]] (by rfl) rfl rfl (by (try simp only [List.map_toArray, List.map_cons, List.map_nil]); first | done | rfl | (simp only [List.length_drop, List.length_take]; rfl)) ?_
              with_reducible refine (table_Same.calls kj9 _ _ t316 _ _ t319 _ _ t330 _ _ x337001_9 false _ ?side9 ?side1 ?side2 ?side3 ?side4 ?side5 ?side6 ?side7 ?side8 A41.out).mono ?_
              (case side1 => repeat (first | exact (Kd.R_reads' HO_329000.out).2.2 | (with_reducible refine Kd.C_alloc ?_ _) | (with_reducible refine Kd.C_drewN ?_ _) | (with_reducible refine Kd.C_drew ?_)))
              (case side2 => exact (Kd.R_reads' HO_329000.out).2.1)
              (case side3 => repeat (first | exact (Kd.R_reads' HO_329001.out).2.2 | (with_reducible refine Kd.C_alloc ?_ _) | (with_reducible refine Kd.C_drewN ?_ _) | (with_reducible refine Kd.C_drew ?_)))
              (case side4 => exact (Kd.R_reads' HO_329001.out).2.1)
              (case side5 => repeat (first | exact (Kd.R_reads' HO_337000.out).2.2 | (with_reducible refine Kd.C_alloc ?_ _) | (with_reducible refine Kd.C_drewN ?_ _) | (with_reducible refine Kd.C_drew ?_)))
              (case side6 => exact (Kd.R_reads' HO_337000.out).2.1)
              (case side7 => repeat (first | exact (Kd.R_reads' HO_337001.out).2.2 | (with_reducible refine Kd.C_alloc ?_ _) | (with_reducible refine Kd.C_drewN ?_ _) | (with_reducible refine Kd.C_drew ?_)))
              (case side8 => exact (Kd.R_reads' HO_337001.out).2.1)
              (case side9 => first | exact hLd_.out | exact hLd_ | exact ⟨LaidW.below hLd_.out (by repeat (first | (with_reducible first | exact HB.out | apply below_alloc | apply pw_below_drewN | apply below_drew1 | refine below_set ?_ GE328.out | refine below_set ?_ GE329.out | refine below_set ?_ GE336.out) | exact HB.out))⟩ | exact ⟨LaidW.below hLd_.out (by repeat (first | exact Below.refl _ _ | apply below_alloc | apply pw_below_drewN | apply below_drew1))⟩)
              rintro e w52 ⟨rfl, hb⟩
              refine ⟨_, rfl, ?_⟩
              replace HO_329000 := Aside0.mk (Kd.R_below (by (with_reducible repeat (first | apply Kd.R_alloc | apply Kd.R_drewN | apply Kd.R_drew)); exact HO_329000.out) hb)
              replace HO_329001 := Aside0.mk (Kd.R_below (by (with_reducible repeat (first | apply Kd.R_alloc | apply Kd.R_drewN | apply Kd.R_drew)); exact HO_329001.out) hb)
              replace HO_330000 := Aside0.mk (Kd.R_below (by (with_reducible repeat (first | apply Kd.R_alloc | apply Kd.R_drewN | apply Kd.R_drew)); exact HO_330000.out) hb)
              replace HO_330001 := Aside0.mk (Kd.R_below (by (with_reducible repeat (first | apply Kd.R_alloc | apply Kd.R_drewN | apply Kd.R_drew)); exact HO_330001.out) hb)
              replace HO_337000 := Aside0.mk (Kd.R_below (by (with_reducible repeat (first | apply Kd.R_alloc | apply Kd.R_drewN | apply Kd.R_drew)); exact HO_337000.out) hb)
              replace HO_337001 := Aside0.mk (Kd.R_below (by (with_reducible repeat (first | apply Kd.R_alloc | apply Kd.R_drewN | apply Kd.R_drew)); exact HO_337001.out) hb)
              replace BK328 := Aside0.mk (blk_below (g := gb328) (pk BK328) hb)
              replace BK329 := Aside0.mk (blk_below (g := gb329) (pk BK329) hb)
              replace BK336 := Aside0.mk (blk_below (g := gb336) (pk BK336) hb)
              replace HB := Aside0.mk (below_step (by repeat (first | (with_reducible first | exact HB.out | apply below_alloc | apply pw_below_drewN | apply below_drew1 | refine below_set ?_ GE328.out | refine below_set ?_ GE329.out | refine below_set ?_ GE336.out) | exact HB.out)) hb)
              (try clear hb)
              (try clear hb2)
              (try clear hk)
              (try clear hi)
              refine hK.out _ _ ⟨bc BK328 0, bc BK328 1, bc BK329 0, bc BK329 1, bc BK336 0, bc BK336 1⟩ (fun hHeld => ?_)
              clear hK K
              refine norm_ (a' := ?_) ?_ ?_
              rotate_left
              · show Act.put _ (some 41) _ = _
                simp only [Act.put, List.setIfInBounds_toArray, List.set_cons_zero, List.set_cons_succ, i64_w, i32_w]
                rfl
              refine pure_ (i := 13) (N := some 42) (v := ?_) (a' := ?_) #[true, true, true, true, true, true, true, true, true, true, true, true, true, true, false, false, false, false, false, false, false, false, false, false, false, false, false, false, false, false, false] rfl rfl (any_of HT_.out (by kernel_rfl)) (fun _ _ _ h => h) (Or.inl ⟨by rfl, ?_⟩) ?_ ?_
              rotate_left
              · intro w'
                go_simp
                with_reducible rfl
              rotate_left
              · simp only [Act.put, List.setIfInBounds_toArray, List.set_cons_zero, List.set_cons_succ, i64_w, i32_w]
                rfl
              refine pure_ (i := 14) (N := some 43) (v := ?_) (a' := ?_) #[true, true, true, true, true, true, true, true, true, true, true, true, true, true, true, false, false, false, false, false, false, false, false, false, false, false, false, false, false, false, false] rfl rfl (any_of HT_.out (by kernel_rfl)) (fun _ _ _ h => h) (Or.inl ⟨by rfl, ?_⟩) ?_ ?_
              rotate_left
              · intro w'
                go_simp
                with_reducible rfl
              rotate_left
              · simp only [Act.put, List.setIfInBounds_toArray, List.set_cons_zero, List.set_cons_succ, i64_w, i32_w]
                rfl
              refine pure_ (i := 15) (N := some 44) (v := ?_) (a' := ?_) #[true, true, true, true, true, true, true, true, true, true, true, true, true, true, true, true, false, false, false, false, false, false, false, false, false, false, false, false, false, false, false] rfl rfl (any_of HT_.out (by kernel_rfl)) (fun _ _ _ h => h) (Or.inl ⟨by rfl, ?_⟩) ?_ ?_
              rotate_left
              · intro w'
                go_simp
                with_reducible rfl
              rotate_left
              · simp only [Act.put, List.setIfInBounds_toArray, List.set_cons_zero, List.set_cons_succ, i64_w, i32_w]
                rfl
              refine take_ (i := 16) (N := some 45) (v := ?_) (a' := ?_) #[true, true, true, true, true, true, true, true, true, true, true, true, true, true, true, true, true, false, false, false, false, false, false, false, false, false, false, false, false, false, false] rfl rfl (take_ofW HT_.out HW_.out (by kernel_rfl)) (fun _ _ _ h => h) (Or.inl ⟨by rfl, ?_⟩) hHeld ?_ ?_
              rotate_left
              · rintro w' ⟨s0, s1, s2, s3, s4, s5⟩
                go_simp
                with_reducible rfl
              rotate_left
              · simp only [Act.put, List.setIfInBounds_toArray, List.set_cons_zero, List.set_cons_succ, i64_w, i32_w]
                rfl
              refine take_ (i := 17) (N := some 46) (v := ?_) (a' := ?_) #[true, true, true, true, true, true, true, true, true, true, true, true, true, true, true, true, true, true, false, false, false, false, false, false, false, false, false, false, false, false, false] rfl rfl (take_ofW HT_.out HW_.out (by kernel_rfl)) (fun _ _ _ h => h) (Or.inl ⟨by rfl, ?_⟩) hHeld ?_ ?_
              rotate_left
              · rintro w' ⟨s0, s1, s2, s3, s4, s5⟩
                go_simp
                with_reducible rfl
              rotate_left
              · simp only [Act.put, List.setIfInBounds_toArray, List.set_cons_zero, List.set_cons_succ, i64_w, i32_w]
                rfl
              refine one_ (i := 18) (N := some 47) #[true, true, true, true, true, true, true, true, true, true, true, true, true, true, true, true, true, true, true, false, false, false, false, false, false, false, false, false, false, false, false] rfl rfl (one_of HT_.out (by kernel_rfl)) (by decide) (fun K hK => ?_)
              refine goes_ Tryd.func17 (by kernel_rfl) rfl #[.agg #[.slice Ao25 t330.length co25, .slice Ao51 x337001_9.length co51], .agg #[.slice Ao16 t316.length co16, .slice Ao19 t319.length co19]] (by rfl) rfl rfl (by (try simp only [List.map_toArray, List.map_cons, List.map_nil]); first | done | rfl | (simp only [List.length_drop, List.length_take]; rfl)) ?_
              with_reducible refine (table_Same.calls kj9 _ _ t330 _ _ x337001_9 _ _ t316 _ _ t319 false _ ?side9 ?side1 ?side2 ?side3 ?side4 ?side5 ?side6 ?side7 ?side8 A43.out).mono ?_
              (case side1 => repeat (first | exact (Kd.R_reads' HO_337000.out).2.2 | (with_reducible refine Kd.C_alloc ?_ _) | (with_reducible refine Kd.C_drewN ?_ _) | (with_reducible refine Kd.C_drew ?_)))
              (case side2 => exact (Kd.R_reads' HO_337000.out).2.1)
              (case side3 => repeat (first | exact (Kd.R_reads' HO_337001.out).2.2 | (with_reducible refine Kd.C_alloc ?_ _) | (with_reducible refine Kd.C_drewN ?_ _) | (with_reducible refine Kd.C_drew ?_)))
              (case side4 => exact (Kd.R_reads' HO_337001.out).2.1)
              (case side5 => repeat (first | exact (Kd.R_reads' HO_329000.out).2.2 | (with_reducible refine Kd.C_alloc ?_ _) | (with_reducible refine Kd.C_drewN ?_ _) | (with_reducible refine Kd.C_drew ?_)))
              (case side6 => exact (Kd.R_reads' HO_329000.out).2.1)
              (case side7 => repeat (first | exact (Kd.R_reads' HO_329001.out).2.2 | (with_reducible refine Kd.C_alloc ?_ _) | (with_reducible refine Kd.C_drewN ?_ _) | (with_reducible refine Kd.C_drew ?_)))
              (case side8 => exact (Kd.R_reads' HO_329001.out).2.1)
              (case side9 => first | exact hLd_.out | exact hLd_ | exact ⟨LaidW.below hLd_.out (by repeat (first | (with_reducible first | exact HB.out | apply below_alloc | apply pw_below_drewN | apply below_drew1 | refine below_set ?_ GE328.out | refine below_set ?_ GE329.out | refine below_set ?_ GE336.out) | exact HB.out))⟩ | exact ⟨LaidW.below hLd_.out (by repeat (first | exact Below.refl _ _ | apply below_alloc | apply pw_below_drewN | apply below_drew1))⟩)
              rintro e w53 ⟨rfl, hb⟩
              refine ⟨_, rfl, ?_⟩
              replace HO_329000 := Aside0.mk (Kd.R_below (by (with_reducible repeat (first | apply Kd.R_alloc | apply Kd.R_drewN | apply Kd.R_drew)); exact HO_329000.out) hb)
              replace HO_329001 := Aside0.mk (Kd.R_below (by (with_reducible repeat (first | apply Kd.R_alloc | apply Kd.R_drewN | apply Kd.R_drew)); exact HO_329001.out) hb)
              replace HO_330000 := Aside0.mk (Kd.R_below (by (with_reducible repeat (first | apply Kd.R_alloc | apply Kd.R_drewN | apply Kd.R_drew)); exact HO_330000.out) hb)
              replace HO_330001 := Aside0.mk (Kd.R_below (by (with_reducible repeat (first | apply Kd.R_alloc | apply Kd.R_drewN | apply Kd.R_drew)); exact HO_330001.out) hb)
              replace HO_337000 := Aside0.mk (Kd.R_below (by (with_reducible repeat (first | apply Kd.R_alloc | apply Kd.R_drewN | apply Kd.R_drew)); exact HO_337000.out) hb)
              replace HO_337001 := Aside0.mk (Kd.R_below (by (with_reducible repeat (first | apply Kd.R_alloc | apply Kd.R_drewN | apply Kd.R_drew)); exact HO_337001.out) hb)
              replace BK328 := Aside0.mk (blk_below (g := gb328) (pk BK328) hb)
              replace BK329 := Aside0.mk (blk_below (g := gb329) (pk BK329) hb)
              replace BK336 := Aside0.mk (blk_below (g := gb336) (pk BK336) hb)
              replace HB := Aside0.mk (below_step (by repeat (first | (with_reducible first | exact HB.out | apply below_alloc | apply pw_below_drewN | apply below_drew1 | refine below_set ?_ GE328.out | refine below_set ?_ GE329.out | refine below_set ?_ GE336.out) | exact HB.out)) hb)
              (try clear hb)
              (try clear hb2)
              (try clear hk)
              (try clear hi)
              refine hK.out _ _ ⟨bc BK328 0, bc BK328 1, bc BK329 0, bc BK329 1, bc BK336 0, bc BK336 1⟩ (fun hHeld => ?_)
              clear hK K
              refine norm_ (a' := ?_) ?_ ?_
              rotate_left
              · show Act.put _ (some 47) _ = _
                simp only [Act.put, List.setIfInBounds_toArray, List.set_cons_zero, List.set_cons_succ, i64_w, i32_w]
                rfl
              refine pure_ (i := 19) (N := some 48) (v := ?_) (a' := ?_) #[true, true, true, true, true, true, true, true, true, true, true, true, true, true, true, true, true, true, true, true, false, false, false, false, false, false, false, false, false, false, false] rfl rfl (any_of HT_.out (by kernel_rfl)) (fun _ _ _ h => h) (Or.inl ⟨by rfl, ?_⟩) ?_ ?_
              rotate_left
              · intro w'
                go_simp
                with_reducible rfl
              rotate_left
              · simp only [Act.put, List.setIfInBounds_toArray, List.set_cons_zero, List.set_cons_succ, i64_w, i32_w]
                rfl
              refine pure_ (i := 20) (N := some 49) (v := ?_) (a' := ?_) #[true, true, true, true, true, true, true, true, true, true, true, true, true, true, true, true, true, true, true, true, true, false, false, false, false, false, false, false, false, false, false] rfl rfl (any_of HT_.out (by kernel_rfl)) (fun _ _ _ h => h) (Or.inl ⟨by rfl, ?_⟩) ?_ ?_
              rotate_left
              · intro w'
                go_simp
                with_reducible rfl
              rotate_left
              · simp only [Act.put, List.setIfInBounds_toArray, List.set_cons_zero, List.set_cons_succ, i64_w, i32_w]
                rfl
              refine pure_ (i := 21) (N := some 50) (v := ?_) (a' := ?_) #[true, true, true, true, true, true, true, true, true, true, true, true, true, true, true, true, true, true, true, true, true, true, false, false, false, false, false, false, false, false, false] rfl rfl (any_of HT_.out (by kernel_rfl)) (fun _ _ _ h => h) (Or.inl ⟨by rfl, ?_⟩) ?_ ?_
              rotate_left
              · intro w'
                go_simp
                with_reducible rfl
              rotate_left
              · simp only [Act.put, List.setIfInBounds_toArray, List.set_cons_zero, List.set_cons_succ, i64_w, i32_w]
                rfl
              refine take_ (i := 22) (N := some 51) (v := ?_) (a' := ?_) #[true, true, true, true, true, true, true, true, true, true, true, true, true, true, true, true, true, true, true, true, true, true, true, false, false, false, false, false, false, false, false] rfl rfl (take_ofW HT_.out HW_.out (by kernel_rfl)) (fun _ _ _ h => h) (Or.inl ⟨by rfl, ?_⟩) hHeld ?_ ?_
              rotate_left
              · rintro w' ⟨s0, s1, s2, s3, s4, s5⟩
                go_simp
                with_reducible rfl
              rotate_left
              · simp only [Act.put, List.setIfInBounds_toArray, List.set_cons_zero, List.set_cons_succ, i64_w, i32_w]
                rfl
              refine take_ (i := 23) (N := some 52) (v := ?_) (a' := ?_) #[true, true, true, true, true, true, true, true, true, true, true, true, true, true, true, true, true, true, true, true, true, true, true, true, false, false, false, false, false, false, false] rfl rfl (take_ofW HT_.out HW_.out (by kernel_rfl)) (fun _ _ _ h => h) (Or.inl ⟨by rfl, ?_⟩) hHeld ?_ ?_
              rotate_left
              · rintro w' ⟨s0, s1, s2, s3, s4, s5⟩
                go_simp
                with_reducible rfl
              rotate_left
              · simp only [Act.put, List.setIfInBounds_toArray, List.set_cons_zero, List.set_cons_succ, i64_w, i32_w]
                rfl
              refine take_ (i := 25) (N := some 54) (v := ?_) (a' := ?_) #[true, true, true, true, true, true, true, true, true, true, true, true, true, true, true, true, true, true, true, true, true, true, true, true, false, true, false, false, false, false, false] rfl rfl (take_ofW HT_.out HW_.out (by kernel_rfl)) (fun _ _ _ h => h) (Or.inl ⟨by rfl, ?_⟩) hHeld ?_ ?_
              rotate_left
              · rintro w' ⟨s0, s1, s2, s3, s4, s5⟩
                go_simp
                with_reducible rfl
              rotate_left
              · simp only [Act.put, List.setIfInBounds_toArray, List.set_cons_zero, List.set_cons_succ, i64_w, i32_w]
                rfl
              refine take_ (i := 26) (N := some 55) (v := ?_) (a' := ?_) #[true, true, true, true, true, true, true, true, true, true, true, true, true, true, true, true, true, true, true, true, true, true, true, true, false, true, true, false, false, false, false] rfl rfl (take_ofW HT_.out HW_.out (by kernel_rfl)) (fun _ _ _ h => h) (Or.inl ⟨by rfl, ?_⟩) hHeld ?_ ?_
              rotate_left
              · rintro w' ⟨s0, s1, s2, s3, s4, s5⟩
                go_simp
                with_reducible rfl
              rotate_left
              · simp only [Act.put, List.setIfInBounds_toArray, List.set_cons_zero, List.set_cons_succ, i64_w, i32_w]
                rfl
              refine one_ (i := 24) (N := some 53) #[true, true, true, true, true, true, true, true, true, true, true, true, true, true, true, true, true, true, true, true, true, true, true, true, true, true, true, false, false, false, false] rfl rfl (one_of HT_.out (by kernel_rfl)) (by decide) (fun K hK => ?_)
              refine goes_ Tryd.func17 (by kernel_rfl) rfl #[.agg #[.slice Ao20 t322.length co20, .slice Ao22 t325.length co22], .agg #[.slice Ao16 t316.length co16, .slice Ao19 t319.length co19]] (by rfl) rfl rfl (by (try simp only [List.map_toArray, List.map_cons, List.map_nil]); first | done | rfl | (simp only [List.length_drop, List.length_take]; rfl)) ?_
              with_reducible refine (table_Same.calls kj9 _ _ t322 _ _ t325 _ _ t316 _ _ t319 t345 _ ?side9 ?side1 ?side2 ?side3 ?side4 ?side5 ?side6 ?side7 ?side8 A45.out).mono ?_
              (case side1 => repeat (first | exact (Kd.R_reads' HO_330000.out).2.2 | (with_reducible refine Kd.C_alloc ?_ _) | (with_reducible refine Kd.C_drewN ?_ _) | (with_reducible refine Kd.C_drew ?_)))
              (case side2 => exact (Kd.R_reads' HO_330000.out).2.1)
              (case side3 => repeat (first | exact (Kd.R_reads' HO_330001.out).2.2 | (with_reducible refine Kd.C_alloc ?_ _) | (with_reducible refine Kd.C_drewN ?_ _) | (with_reducible refine Kd.C_drew ?_)))
              (case side4 => exact (Kd.R_reads' HO_330001.out).2.1)
              (case side5 => repeat (first | exact (Kd.R_reads' HO_329000.out).2.2 | (with_reducible refine Kd.C_alloc ?_ _) | (with_reducible refine Kd.C_drewN ?_ _) | (with_reducible refine Kd.C_drew ?_)))
              (case side6 => exact (Kd.R_reads' HO_329000.out).2.1)
              (case side7 => repeat (first | exact (Kd.R_reads' HO_329001.out).2.2 | (with_reducible refine Kd.C_alloc ?_ _) | (with_reducible refine Kd.C_drewN ?_ _) | (with_reducible refine Kd.C_drew ?_)))
              (case side8 => exact (Kd.R_reads' HO_329001.out).2.1)
              (case side9 => first | exact hLd_.out | exact hLd_ | exact ⟨LaidW.below hLd_.out (by repeat (first | (with_reducible first | exact HB.out | apply below_alloc | apply pw_below_drewN | apply below_drew1 | refine below_set ?_ GE328.out | refine below_set ?_ GE329.out | refine below_set ?_ GE336.out) | exact HB.out))⟩ | exact ⟨LaidW.below hLd_.out (by repeat (first | exact Below.refl _ _ | apply below_alloc | apply pw_below_drewN | apply below_drew1))⟩)
              rintro e w54 ⟨rfl, hb⟩
              refine ⟨_, rfl, ?_⟩
              replace HO_329000 := Aside0.mk (Kd.R_below (by (with_reducible repeat (first | apply Kd.R_alloc | apply Kd.R_drewN | apply Kd.R_drew)); exact HO_329000.out) hb)
              replace HO_329001 := Aside0.mk (Kd.R_below (by (with_reducible repeat (first | apply Kd.R_alloc | apply Kd.R_drewN | apply Kd.R_drew)); exact HO_329001.out) hb)
              replace HO_330000 := Aside0.mk (Kd.R_below (by (with_reducible repeat (first | apply Kd.R_alloc | apply Kd.R_drewN | apply Kd.R_drew)); exact HO_330000.out) hb)
              replace HO_330001 := Aside0.mk (Kd.R_below (by (with_reducible repeat (first | apply Kd.R_alloc | apply Kd.R_drewN | apply Kd.R_drew)); exact HO_330001.out) hb)
              replace HO_337000 := Aside0.mk (Kd.R_below (by (with_reducible repeat (first | apply Kd.R_alloc | apply Kd.R_drewN | apply Kd.R_drew)); exact HO_337000.out) hb)
              replace HO_337001 := Aside0.mk (Kd.R_below (by (with_reducible repeat (first | apply Kd.R_alloc | apply Kd.R_drewN | apply Kd.R_drew)); exact HO_337001.out) hb)
              replace BK328 := Aside0.mk (blk_below (g := gb328) (pk BK328) hb)
              replace BK329 := Aside0.mk (blk_below (g := gb329) (pk BK329) hb)
              replace BK336 := Aside0.mk (blk_below (g := gb336) (pk BK336) hb)
              replace HB := Aside0.mk (below_step (by repeat (first | (with_reducible first | exact HB.out | apply below_alloc | apply pw_below_drewN | apply below_drew1 | refine below_set ?_ GE328.out | refine below_set ?_ GE329.out | refine below_set ?_ GE336.out) | exact HB.out)) hb)
              (try clear hb)
              (try clear hb2)
              (try clear hk)
              (try clear hi)
              refine hK.out _ _ ⟨bc BK328 0, bc BK328 1, bc BK329 0, bc BK329 1, bc BK336 0, bc BK336 1⟩ (fun hHeld => ?_)
              clear hK K
              refine norm_ (a' := ?_) ?_ ?_
              rotate_left
              · show Act.put _ (some 53) _ = _
                simp only [Act.put, List.setIfInBounds_toArray, List.set_cons_zero, List.set_cons_succ, i64_w, i32_w]
                rfl
              refine one_ (i := 27) (N := some 56) #[true, true, true, true, true, true, true, true, true, true, true, true, true, true, true, true, true, true, true, true, true, true, true, true, true, true, true, true, false, false, false] rfl rfl (one_of HT_.out (by kernel_rfl)) (by decide) (fun K hK => ?_)
              refine goes_ Tryd.func17 (by kernel_rfl) rfl #[.agg #[.slice Ao16 t316.length co16, .slice Ao19 t319.length co19], .agg #[.slice Ao20 t322.length co20, .slice Ao22 t325.length co22]] (by rfl) rfl rfl (by (try simp only [List.map_toArray, List.map_cons, List.map_nil]); first | done | rfl | (simp only [List.length_drop, List.length_take]; rfl)) ?_
              with_reducible refine (table_Same.calls kj9 _ _ t316 _ _ t319 _ _ t322 _ _ t325 t346 _ ?side9 ?side1 ?side2 ?side3 ?side4 ?side5 ?side6 ?side7 ?side8 A46.out).mono ?_
              (case side1 => repeat (first | exact (Kd.R_reads' HO_329000.out).2.2 | (with_reducible refine Kd.C_alloc ?_ _) | (with_reducible refine Kd.C_drewN ?_ _) | (with_reducible refine Kd.C_drew ?_)))
              (case side2 => exact (Kd.R_reads' HO_329000.out).2.1)
              (case side3 => repeat (first | exact (Kd.R_reads' HO_329001.out).2.2 | (with_reducible refine Kd.C_alloc ?_ _) | (with_reducible refine Kd.C_drewN ?_ _) | (with_reducible refine Kd.C_drew ?_)))
              (case side4 => exact (Kd.R_reads' HO_329001.out).2.1)
              (case side5 => repeat (first | exact (Kd.R_reads' HO_330000.out).2.2 | (with_reducible refine Kd.C_alloc ?_ _) | (with_reducible refine Kd.C_drewN ?_ _) | (with_reducible refine Kd.C_drew ?_)))
              (case side6 => exact (Kd.R_reads' HO_330000.out).2.1)
              (case side7 => repeat (first | exact (Kd.R_reads' HO_330001.out).2.2 | (with_reducible refine Kd.C_alloc ?_ _) | (with_reducible refine Kd.C_drewN ?_ _) | (with_reducible refine Kd.C_drew ?_)))
              (case side8 => exact (Kd.R_reads' HO_330001.out).2.1)
              (case side9 => first | exact hLd_.out | exact hLd_ | exact ⟨LaidW.below hLd_.out (by repeat (first | (with_reducible first | exact HB.out | apply below_alloc | apply pw_below_drewN | apply below_drew1 | refine below_set ?_ GE328.out | refine below_set ?_ GE329.out | refine below_set ?_ GE336.out) | exact HB.out))⟩ | exact ⟨LaidW.below hLd_.out (by repeat (first | exact Below.refl _ _ | apply below_alloc | apply pw_below_drewN | apply below_drew1))⟩)
              rintro e w55 ⟨rfl, hb⟩
              refine ⟨_, rfl, ?_⟩
              replace HO_329000 := Aside0.mk (Kd.R_below (by (with_reducible repeat (first | apply Kd.R_alloc | apply Kd.R_drewN | apply Kd.R_drew)); exact HO_329000.out) hb)
              replace HO_329001 := Aside0.mk (Kd.R_below (by (with_reducible repeat (first | apply Kd.R_alloc | apply Kd.R_drewN | apply Kd.R_drew)); exact HO_329001.out) hb)
              replace HO_330000 := Aside0.mk (Kd.R_below (by (with_reducible repeat (first | apply Kd.R_alloc | apply Kd.R_drewN | apply Kd.R_drew)); exact HO_330000.out) hb)
              replace HO_330001 := Aside0.mk (Kd.R_below (by (with_reducible repeat (first | apply Kd.R_alloc | apply Kd.R_drewN | apply Kd.R_drew)); exact HO_330001.out) hb)
              replace HO_337000 := Aside0.mk (Kd.R_below (by (with_reducible repeat (first | apply Kd.R_alloc | apply Kd.R_drewN | apply Kd.R_drew)); exact HO_337000.out) hb)
              replace HO_337001 := Aside0.mk (Kd.R_below (by (with_reducible repeat (first | apply Kd.R_alloc | apply Kd.R_drewN | apply Kd.R_drew)); exact HO_337001.out) hb)
              replace BK328 := Aside0.mk (blk_below (g := gb328) (pk BK328) hb)
              replace BK329 := Aside0.mk (blk_below (g := gb329) (pk BK329) hb)
              replace BK336 := Aside0.mk (blk_below (g := gb336) (pk BK336) hb)
              replace HB := Aside0.mk (below_step (by repeat (first | (with_reducible first | exact HB.out | apply below_alloc | apply pw_below_drewN | apply below_drew1 | refine below_set ?_ GE328.out | refine below_set ?_ GE329.out | refine below_set ?_ GE336.out) | exact HB.out)) hb)
              (try clear hb)
              (try clear hb2)
              (try clear hk)
              (try clear hi)
              refine hK.out _ _ ⟨bc BK328 0, bc BK328 1, bc BK329 0, bc BK329 1, bc BK336 0, bc BK336 1⟩ (fun hHeld => ?_)
              clear hK K
              refine norm_ (a' := ?_) ?_ ?_
              rotate_left
              · show Act.put _ (some 56) _ = _
                simp only [Act.put, List.setIfInBounds_toArray, List.set_cons_zero, List.set_cons_succ, i64_w, i32_w]
                rfl
              refine pure_ (i := 28) (N := some 57) (v := ?_) (a' := ?_) #[true, true, true, true, true, true, true, true, true, true, true, true, true, true, true, true, true, true, true, true, true, true, true, true, true, true, true, true, true, false, false] rfl rfl (any_of HT_.out (by kernel_rfl)) (fun _ _ _ h => h) (Or.inl ⟨by rfl, ?_⟩) ?_ ?_
              rotate_left
              · intro w'
                go_simp
                with_reducible rfl
              rotate_left
              · simp only [Act.put, List.setIfInBounds_toArray, List.set_cons_zero, List.set_cons_succ, i64_w, i32_w]
                rfl
              refine pure_ (i := 29) (N := some 58) (v := ?_) (a' := ?_) #[true, true, true, true, true, true, true, true, true, true, true, true, true, true, true, true, true, true, true, true, true, true, true, true, true, true, true, true, true, true, false] rfl rfl (any_of HT_.out (by kernel_rfl)) (fun _ _ _ h => h) (Or.inl ⟨by rfl, ?_⟩) ?_ ?_
              rotate_left
              · intro w'
                go_simp
                with_reducible rfl
              rotate_left
              · simp only [Act.put, List.setIfInBounds_toArray, List.set_cons_zero, List.set_cons_succ, i64_w, i32_w]
                rfl
              refine pure_ (i := 30) (N := some 8) (v := ?_) (a' := ?_) #[true, true, true, true, true, true, true, true, true, true, true, true, true, true, true, true, true, true, true, true, true, true, true, true, true, true, true, true, true, true, true] rfl rfl (any_of HT_.out (by kernel_rfl)) (fun _ _ _ h => h) (Or.inl ⟨by rfl, ?_⟩) ?_ ?_
              rotate_left
              · intro w'
                go_simp
                with_reducible rfl
              rotate_left
              · simp only [Act.put, List.setIfInBounds_toArray, List.set_cons_zero, List.set_cons_succ, i64_w, i32_w]
                rfl
              refine done_ (done_of HT_.out (by kernel_rfl)) ?_
              try go_wp2
              go_ret
              exact ⟨by first | rfl | (simp [errW_none, errW_some] <;> rfl) | (simp [*, errW_none, errW_some] <;> rfl), by repeat (first | (with_reducible first | exact HB.out | apply below_alloc | apply pw_below_drewN | apply below_drew1 | refine below_set ?_ GE328.out | refine below_set ?_ GE329.out | refine below_set ?_ GE336.out) | exact HB.out)⟩
        · rw [if_neg c40] at H
          have c40b0 : (t340 == (t341.toList == t342.toList)) = false := by simpa using c40
          (try (have c40b1 : decide (t340 = (t341.toList == t342.toList)) = false := by simpa using c40))
          (try (have c40b2 : (t340 == (t341.toList == t342.toList)) = false := by simpa using c40))
          (try (have c40b3 : ¬ (t340 = (t341.toList == t342.toList)) := by simpa using c40))
          clear c40
          exact absurd (Option.some.inj H) (by rw [hr0_.out]; decide)
  · replace c6 := Bool.eq_false_iff.mpr c6
    subst c6
    have H1 : (some false) = some r := by rw [if_neg (show ¬ (false = true) by decide)] at H; exact H
    clear H
    have H := H1
    clear H1
    exact absurd (Option.some.inj H) (by rw [hr0_.out]; decide)

/-- THE ONE PURE STATEMENT of damperlaw5_TableSame: yours. -/
def damperlaw5_TableSame.Pure : Prop := ∀ (l0 : List Int) (l1 : List Int) (l2 : List Int) (l3 : List Int), (l0.length ≤ maxLen ∧ ∀ y_ ∈ l0, (Lit.int .i64 y_).wf = true) → (l1.length ≤ maxLen ∧ ∀ y_ ∈ l1, (Lit.int .i64 y_).wf = true) → (l2.length ≤ maxLen ∧ ∀ y_ ∈ l2, (Lit.int .i64 y_).wf = true) → (l3.length ≤ maxLen ∧ ∀ y_ ∈ l3, (Lit.int .i64 y_).wf = true) → ∃ k, damperlaw5_TableSame.f k l0 l1 l2 l3 = some true
theorem damperlaw5_TableSame.walk (P : damperlaw5_TableSame.Pure) (A0 : Option Addr) (c0 : Nat) (l0 : List Int) (A1 : Option Addr) (c1 : Nat) (l1 : List Int) (A2 : Option Addr) (c2 : Nat) (l2 : List Int) (A3 : Option Addr) (c3 : Nat) (l3 : List Int) (w : World) (hLd_ : LaidW w) (w0 : l0.length ≤ maxLen ∧ ∀ y_ ∈ l0, (Lit.int .i64 y_).wf = true) (w1 : l1.length ≤ maxLen ∧ ∀ y_ ∈ l1, (Lit.int .i64 y_).wf = true) (w2 : l2.length ≤ maxLen ∧ ∀ y_ ∈ l2, (Lit.int .i64 y_).wf = true) (w3 : l3.length ≤ maxLen ∧ ∀ y_ ∈ l3, (Lit.int .i64 y_).wf = true) (hr0 : Kd.C (Kd.int .i64) w A0 l0.length l0) (hc0 : l0.length ≤ c0) (hr1 : Kd.C (Kd.int .i64) w A1 l1.length l1) (hc1 : l1.length ≤ c1) (hr2 : Kd.C (Kd.int .i64) w A2 l2.length l2) (hc2 : l2.length ≤ c2) (hr3 : Kd.C (Kd.int .i64) w A3 l3.length l3) (hc3 : l3.length ≤ c3) :
    Calls Tryd.prog 6 #[.slice A0 l0.length c0, .slice A1 l1.length c1, .slice A2 l2.length c2, .slice A3 l3.length c3] w fun e w' => e = .returned (.bool true) ∧ Below w.heap.size w w' := by
  obtain ⟨k, h⟩ := P l0 l1 l2 l3 w0 w1 w2 w3
  refine (damperlaw5_TableSame.calls k A0 c0 l0 A1 c1 l1 A2 c2 l2 A3 c3 l3 true w ⟨hLd_⟩ hr0 hc0 hr1 hc1 hr2 hc2 hr3 hc3 ⟨rfl⟩ h).mono ?_
  rintro e w' ⟨rfl, hd⟩
  exact ⟨rfl, hd⟩

/-! ### damperref5_Pick: function 19 -/
def damperref5_Pick.l0 : Nat → Int → Int → List (S32) → List (S35) → Option (ByteArray)
  | 0, _, _, _, _ => none
  | k + 1, x5, x6, x348000, x348001 => if x6 < (x348000.length : Int) then (if 0 ≤ x6 then (if x5 < ((rd_T32 x348000 x6).f1) then (some ((rd_T32 x348000 x6).f0)) else (damperref5_Pick.l0 k (wrap64 (x5 - ((rd_T32 x348000 x6).f1))) (wrap64 (x6 + 1)) x348000 x348001)) else (none)) else (some (⟨#[]⟩ : ByteArray))
def damperref5_Pick.f (k : Nat) (l0_0 : List (S32)) (l0_1 : List (S35)) (a1 : Int) : Option (ByteArray) := damperref5_Pick.l0 k (Int.tmod (wrap64 ((Int.tmod a1 100) + 100)) 100) 0 l0_0 l0_1
theorem damperref5_Pick.mono_l : ∀ k, (∀ y0 y1 y2 y3, LeO (damperref5_Pick.l0 k y0 y1 y2 y3) (damperref5_Pick.l0 (k + 1) y0 y1 y2 y3))
  | 0 => fun _ _ _ _ r h => by simp [damperref5_Pick.l0] at h
  | k + 1 => by
    have ih0 := damperref5_Pick.mono_l k
    · intro y0 y1 y2 y3
      unfold damperref5_Pick.l0
      repeat' first
      | (with_reducible exact ih0 _ _ _ _)
      | (with_reducible exact LeO.refl _)
      | (with_reducible exact LeO.none _)
      | (with_reducible refine LeO.ite ?_ ?_)
      | (with_reducible refine LeO.bind ?_ (fun _ => ?_))
      | exact ih0 _ _ _ _
      | exact LeO.none _
      | refine LeO.ite ?_ ?_
      | refine LeO.bind ?_ (fun _ => ?_)
theorem damperref5_Pick.mono : ∀ a0 a1 a2 k, LeO (damperref5_Pick.f k a0 a1 a2) (damperref5_Pick.f (k + 1) a0 a1 a2) := by
  intro a0 a1 a2 k
  have ih0 := damperref5_Pick.mono_l k
  unfold damperref5_Pick.f
  repeat' first
      | (with_reducible exact ih0 _ _ _ _)
      | (with_reducible exact LeO.refl _)
      | (with_reducible exact LeO.none _)
      | (with_reducible refine LeO.ite ?_ ?_)
      | (with_reducible refine LeO.bind ?_ (fun _ => ?_))
      | exact ih0 _ _ _ _
      | exact LeO.none _
      | refine LeO.ite ?_ ?_
      | refine LeO.bind ?_ (fun _ => ?_)
set_option maxHeartbeats 8000000 in
set_option maxRecDepth 100000 in
theorem damperref5_Pick.calls (k : Nat) (A0_0 : Option Addr) (c0_0 : Nat) (l0_0 : List (S32)) (A0_1 : Option Addr) (c0_1 : Nat) (l0_1 : List (S35)) (a1 : Int) (r : ByteArray) (w : World) (hr0_0 : Kd.C k32 w A0_0 l0_0.length l0_0) (hc0_0 : l0_0.length ≤ c0_0) (hr0_1 : Kd.C k35 w A0_1 l0_1.length l0_1) (hc0_1 : l0_1.length ≤ c0_1) (h : damperref5_Pick.f k l0_0 l0_1 a1 = some r) :
    Calls Tryd.prog 19 #[.agg #[.slice A0_0 l0_0.length c0_0, .slice A0_1 l0_1.length c0_1], .int .i64 a1] w fun e w' => e = .returned (.string r) ∧ Below w.heap.size w w' := by
  have hu25 := Tryd.underlying25
  have HR0_0 := Aside0.mk hr0_0
  have HC0_0 := Aside0.mk hc0_0
  clear hr0_0 hc0_0
  have HR0_1 := Aside0.mk hr0_1
  have HC0_1 := Aside0.mk hc0_1
  clear hr0_1 hc0_1
  have HB := Aside0.mk (Below.refl w.heap.size w)
  have H : (damperref5_Pick.l0 k (Int.tmod (wrap64 ((Int.tmod a1 100) + 100)) 100) 0 l0_0 l0_1) = some r := h
  clear h
  have H' := Aside0.mk H
  clear H
  go_enter Tryd.func19, Tryd.ntmps19
  go_wp2_with (first | ((with_reducible refine gate_dst (N := 2) rfl ?_); refine box_event ?hg (N := 2) ?hd (cs := #[.slice A0_0 l0_0.length c0_0, .slice A0_1 l0_1.length c0_1]) (t := 25) ?hr ?_; (case hd => rfl); (case hg => rfl); (case hr => first | (go_simp; done) | (go_simp; rfl)); intro gb347 hg w3 hbox hb; have n0_ := Aside0.mk (below_step (by repeat (first | (with_reducible first | exact HB.out | apply below_alloc | apply pw_below_drewN | apply below_drew1) | exact HB.out)) hb); have n1_ := Aside0.mk (hbox); have n2_ := Aside0.mk ((by rw [hg]; exact (below_size (by repeat (first | (with_reducible first | exact HB.out | apply below_alloc | apply pw_below_drewN | apply below_drew1) | exact HB.out))) : w.heap.size ≤ gb347)); have n3_ := Aside0.mk ((by rw [hg]; exact (below_size (by repeat (first | (with_reducible first | exact HB.out | apply below_alloc | apply pw_below_drewN | apply below_drew1) | exact HB.out))) : w.heap.size ≤ gb347)); clear HB; have HB := n0_; have BK347 := n1_; have GW347 := n2_; have GE347 := n3_; clear n0_ n1_ n2_ n3_; clear hb hbox hg))
  go_loopg [5, 6] k (fun kq v5 v6 w' => ∃ (x5_1 : Int) (x6_1 : Int), v5 = .int .i64 x5_1 ∧ v6 = .int .i64 x6_1 ∧ Aside0 (damperref5_Pick.l0 kq x5_1 x6_1 l0_0 l0_1 = some r) ∧ Aside0 (kq ≤ k) ∧ Aside0 (w'.heap[gb347]? = some (.cells #[(.slice A0_0 l0_0.length c0_0), (.slice A0_1 l0_1.length c0_1)] 25 (0, 0))) ∧ Aside0 (Below w.heap.size w w'))
  case atStart => exact ⟨(Int.tmod (wrap64 ((Int.tmod a1 100) + 100)) 100), (0), (by first | rfl | (simp; done) | (simp [*]; done)), (by first | rfl | (simp; done) | (simp [*]; done)), H', ⟨Nat.le_refl _⟩, ⟨by (with_reducible repeat (first | refine blk_drewN ?_ _ | refine blk_drew ?_ | refine blk_alloc ?_ _)); exact BK347.out⟩, ⟨by repeat (first | (with_reducible first | exact HB.out | apply below_alloc | apply pw_below_drewN | apply below_drew1 | refine below_set ?_ GE347.out) | exact HB.out)⟩⟩
  case round =>
    clear H'
    try clear c1
    try clear p2
    obtain ⟨x5_1, x6_1, rfl, rfl, HA, HK1, BK347, HB⟩ := hrel
    cases gk with
    | zero => exact absurd HA.out (by simp [damperref5_Pick.l0])
    | succ k1 =>
      have H := HA.out
      clear HA
      simp only [damperref5_Pick.l0] at H
      by_cases c4 : x6_1 < (l0_0.length : Int)
      · rw [if_pos c4] at H
        have c4b0 : decide (x6_1 < (l0_0.length : Int)) = true := decide_eq_true c4
        clear c4
        by_cases c5 : 0 ≤ x6_1
        rotate_left
        · rw [if_neg c5] at H
          exact absurd H (by simp)
        rw [if_pos c5] at H
        have c5b0 : decide (0 ≤ x6_1) = true := decide_eq_true c5
        clear c5
        by_cases c6 : x5_1 < ((rd_T32 l0_0 x6_1).f1)
        · rw [if_pos c6] at H
          have c6b0 : decide (x5_1 < ((rd_T32 l0_0 x6_1).f1)) = true := decide_eq_true c6
          clear c6
          obtain rfl := Option.some.inj H
          have hcz7_0 : wr.cell? ⟨gb347, 0, none⟩ = some (.slice A0_0 l0_0.length c0_0) := bc BK347 0
          have hcz7_1 : wr.cell? ⟨gb347, 1, none⟩ = some (.slice A0_1 l0_1.length c0_1) := bc BK347 1
          have hfz7_0 := blk_frozen BK347.out 0
          have hfz7_1 := blk_frozen BK347.out 1
          have p348 : 0 ≤ (x6_1 : Int) := of_decide_eq_true (by first | (with_reducible assumption) | assumption)
          have q348 : x6_1 < (l0_0.length : Int) := of_decide_eq_true (by first | (with_reducible assumption) | assumption)
          obtain ⟨ad348, e348, hx348_0, hx348_1⟩ := at_T32 HR0_0.out x6_1 p348 q348
          cases e348
          replace hx348_0 := (HB.out.cell (World.block_lt_of_cell? w _ hx348_0)).trans hx348_0
          replace hx348_1 := (HB.out.cell (World.block_lt_of_cell? w _ hx348_1)).trans hx348_1
          replace p348 := eq_true p348
          replace q348 := eq_true q348
          have p349 : 0 ≤ (x6_1 : Int) := of_decide_eq_true (by first | (with_reducible assumption) | assumption)
          have q349 : x6_1 < (l0_0.length : Int) := of_decide_eq_true (by first | (with_reducible assumption) | assumption)
          obtain ⟨ad349, e349, hx349_0, hx349_1⟩ := at_T32 HR0_0.out x6_1 p349 q349
          obtain rfl : ad348 = ad349 := (by injection e349)
          replace hx349_0 := (HB.out.cell (World.block_lt_of_cell? w _ hx349_0)).trans hx349_0
          replace hx349_1 := (HB.out.cell (World.block_lt_of_cell? w _ hx349_1)).trans hx349_1
          replace p349 := eq_true p349
          replace q349 := eq_true q349
          go_wp2
          go_ret
          exact ⟨by first | rfl | (simp [errW_none, errW_some] <;> rfl) | (simp [*, errW_none, errW_some] <;> rfl), by repeat (first | (with_reducible first | exact HB.out | apply below_alloc | apply pw_below_drewN | apply below_drew1 | refine below_set ?_ GE347.out) | exact HB.out)⟩
        · rw [if_neg c6] at H
          have c6b0 : decide (x5_1 < ((rd_T32 l0_0 x6_1).f1)) = false := decide_eq_false c6
          clear c6
          have H' := Aside0.mk H
          clear H
          have hcz8_0 : wr.cell? ⟨gb347, 0, none⟩ = some (.slice A0_0 l0_0.length c0_0) := bc BK347 0
          have hcz8_1 : wr.cell? ⟨gb347, 1, none⟩ = some (.slice A0_1 l0_1.length c0_1) := bc BK347 1
          have hfz8_0 := blk_frozen BK347.out 0
          have hfz8_1 := blk_frozen BK347.out 1
          have p348 : 0 ≤ (x6_1 : Int) := of_decide_eq_true (by first | (with_reducible assumption) | assumption)
          have q348 : x6_1 < (l0_0.length : Int) := of_decide_eq_true (by first | (with_reducible assumption) | assumption)
          obtain ⟨ad348, e348, hx348_0, hx348_1⟩ := at_T32 HR0_0.out x6_1 p348 q348
          cases e348
          replace hx348_0 := (HB.out.cell (World.block_lt_of_cell? w _ hx348_0)).trans hx348_0
          replace hx348_1 := (HB.out.cell (World.block_lt_of_cell? w _ hx348_1)).trans hx348_1
          replace p348 := eq_true p348
          replace q348 := eq_true q348
          have p350 : 0 ≤ (x6_1 : Int) := of_decide_eq_true (by first | (with_reducible assumption) | assumption)
          have q350 : x6_1 < (l0_0.length : Int) := of_decide_eq_true (by first | (with_reducible assumption) | assumption)
          obtain ⟨ad350, e350, hx350_0, hx350_1⟩ := at_T32 HR0_0.out x6_1 p350 q350
          obtain rfl : ad348 = ad350 := (by injection e350)
          replace hx350_0 := (HB.out.cell (World.block_lt_of_cell? w _ hx350_0)).trans hx350_0
          replace hx350_1 := (HB.out.cell (World.block_lt_of_cell? w _ hx350_1)).trans hx350_1
          replace p350 := eq_true p350
          replace q350 := eq_true q350
          go_wp2
          go_roundg k1
          case measure => have := HK1.out; omega
          case rel => exact ⟨(wrap64 (x5_1 - ((rd_T32 l0_0 x6_1).f1))), (wrap64 (x6_1 + 1)), (by first | rfl | (simp; done) | (simp [*]; done)), (by first | rfl | (simp; done) | (simp [*]; done)), H', ⟨by have := HK1.out; omega⟩, ⟨by (with_reducible repeat (first | refine blk_drewN ?_ _ | refine blk_drew ?_ | refine blk_alloc ?_ _)); exact BK347.out⟩, ⟨by repeat (first | (with_reducible first | exact HB.out | apply below_alloc | apply pw_below_drewN | apply below_drew1 | refine below_set ?_ GE347.out) | exact HB.out)⟩⟩
      · rw [if_neg c4] at H
        have c4b0 : decide (x6_1 < (l0_0.length : Int)) = false := decide_eq_false c4
        clear c4
        obtain rfl := Option.some.inj H
        have hcz9_0 : wr.cell? ⟨gb347, 0, none⟩ = some (.slice A0_0 l0_0.length c0_0) := bc BK347 0
        have hcz9_1 : wr.cell? ⟨gb347, 1, none⟩ = some (.slice A0_1 l0_1.length c0_1) := bc BK347 1
        have hfz9_0 := blk_frozen BK347.out 0
        have hfz9_1 := blk_frozen BK347.out 1
        go_wp2
        go_ret
        exact ⟨by first | rfl | (simp [errW_none, errW_some] <;> rfl) | (simp [*, errW_none, errW_some] <;> rfl), by repeat (first | (with_reducible first | exact HB.out | apply below_alloc | apply pw_below_drewN | apply below_drew1 | refine below_set ?_ GE347.out) | exact HB.out)⟩

end Go.Proofs.YtckcimahclpdfaaDoor.Ma
