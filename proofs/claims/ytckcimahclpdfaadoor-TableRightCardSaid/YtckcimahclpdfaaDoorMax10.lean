-- Written by a program of this session (wip/tools/myprint.py), in the form of the kit's print. Not trusted: Lean checks it.
import Derived.Test.YtckcimahclpdfaaDoorMax0
import Derived.Test.YtckcimahclpdfaaDoorMax9
namespace Go.Proofs.YtckcimahclpdfaaDoor.Ma
open Go.RowKit Go.Proofs.YtckcimahclpdfaaDoorW.PrintWords Go.Proofs.YtckcimahclpdfaaDoorW.PrintLast Go.Proofs.YtckcimahclpdfaaDoorW.PrintMore
attribute [local go_sem] max2_int min2_int max_two min_two max_three min_three max_four min_four   -- for this text's walks alone
set_option linter.unusedVariables false
set_option linter.unusedSimpArgs false

/-! ### damperlaw5_Make: function 11 -/
mutual
def damperlaw5_Make.l0 : Nat → List Int → Int → List (S32) → List (S35) → Option ((List (S32)) × (List (S35)))
  | 0, _, _, _, _ => none
  | k + 1, x1, x6, x207000, x207001 => if x6 < 4 then (damperlaw5_Make.j1 k x1 x6 (decide (x6 < (x1.length : Int))) x207000 x207001) else (damperlaw5_Make.j1 k x1 x6 false x207000 x207001)
def damperlaw5_Make.j1 : Nat → List Int → Int → Bool → List (S32) → List (S35) → Option ((List (S32)) × (List (S35)))
  | 0, _, _, _, _, _ => none
  | k + 1, x1, x6, x17, x207000, x207001 => if x17 = true then (if 0 ≤ x6 then (if x6 < (x1.length : Int) then (if (wi (rd x1 x6) 2) = 0 then ((some (([(wrap64 (48 + x6)) % 256] : List Int) : List Int)).bind fun y208 => (if 1 + (strOfNums y208).size ≤ 9223372036854775807 then ((some (([(⟨#[97, 112, 105, 45, 49]⟩ : ByteArray), (⟨#[97, 112, 105, 45, 50]⟩ : ByteArray), (⟨#[119, 101, 98, 45, 49]⟩ : ByteArray), (⟨#[119, 101, 98, 45, 49, 50]⟩ : ByteArray), (⟨#[119, 101, 98, 45, 50]⟩ : ByteArray), (⟨#[119, 101, 98, 45, 51]⟩ : ByteArray)] : List ByteArray) : List ByteArray)).bind fun y211 => (if 0 ≤ (wi (wrap64 (Int.tdiv (rd x1 x6) 2)) 6) then (if (wi (wrap64 (Int.tdiv (rd x1 x6) 2)) 6) < (y211.length : Int) then (if x207001.length < 4398046511104 then (damperlaw5_Make.l0 k x1 (wrap64 (x6 + 1)) x207000 (x207001 ++ [(⟨(⟨#[116]⟩ : ByteArray) ++ (strOfNums y208), rdOf ByteArray.empty y211 (wi (wrap64 (Int.tdiv (rd x1 x6) 2)) 6)⟩ : S35)])) else (none)) else (none)) else (none))) else (none))) else (damperlaw5_Make.l0 k x1 (wrap64 (x6 + 1)) x207000 x207001)) else (none)) else (none)) else (some (x207000, x207001))
end
def damperlaw5_Make.f (k : Nat) (l0 : List Int) (l1 : List Int) : Option ((List (S32)) × (List (S35))) := (damperlaw5_Shares.f k l0).bind fun t203 => (damperlaw5_Make.l0 k l1 0 t203 ([] : List (S35)))
theorem damperlaw5_Make.mono_l : ∀ k, (∀ y0 y1 y2 y3, LeO (damperlaw5_Make.l0 k y0 y1 y2 y3) (damperlaw5_Make.l0 (k + 1) y0 y1 y2 y3)) ∧ (∀ y0 y1 y2 y3 y4, LeO (damperlaw5_Make.j1 k y0 y1 y2 y3 y4) (damperlaw5_Make.j1 (k + 1) y0 y1 y2 y3 y4))
  | 0 => ⟨fun _ _ _ _ r h => by simp [damperlaw5_Make.l0] at h, fun _ _ _ _ _ r h => by simp [damperlaw5_Make.j1] at h⟩
  | k + 1 => by
    obtain ⟨ih0, ih1⟩ := damperlaw5_Make.mono_l k
    refine ⟨?_, ?_⟩
    · intro y0 y1 y2 y3
      unfold damperlaw5_Make.l0
      repeat' first
      | (with_reducible exact ih0 _ _ _ _)
      | (with_reducible exact ih1 _ _ _ _ _)
      | (with_reducible exact damperlaw5_Shares.mono _ _)
      | (with_reducible exact LeO.refl _)
      | (with_reducible exact LeO.none _)
      | (with_reducible refine LeO.ite ?_ ?_)
      | (with_reducible refine LeO.bind ?_ (fun _ => ?_))
      | exact ih0 _ _ _ _
      | exact ih1 _ _ _ _ _
      | exact damperlaw5_Shares.mono _ _
      | exact LeO.none _
      | refine LeO.ite ?_ ?_
      | refine LeO.bind ?_ (fun _ => ?_)
    · intro y0 y1 y2 y3 y4
      unfold damperlaw5_Make.j1
      repeat' first
      | (with_reducible exact ih0 _ _ _ _)
      | (with_reducible exact ih1 _ _ _ _ _)
      | (with_reducible exact damperlaw5_Shares.mono _ _)
      | (with_reducible exact LeO.refl _)
      | (with_reducible exact LeO.none _)
      | (with_reducible refine LeO.ite ?_ ?_)
      | (with_reducible refine LeO.bind ?_ (fun _ => ?_))
      | exact ih0 _ _ _ _
      | exact ih1 _ _ _ _ _
      | exact damperlaw5_Shares.mono _ _
      | exact LeO.none _
      | refine LeO.ite ?_ ?_
      | refine LeO.bind ?_ (fun _ => ?_)
theorem damperlaw5_Make.mono : ∀ a0 a1 k, LeO (damperlaw5_Make.f k a0 a1) (damperlaw5_Make.f (k + 1) a0 a1) := by
  intro a0 a1 k
  obtain ⟨ih0, ih1⟩ := damperlaw5_Make.mono_l k
  unfold damperlaw5_Make.f
  repeat' first
      | (with_reducible exact ih0 _ _ _ _)
      | (with_reducible exact ih1 _ _ _ _ _)
      | (with_reducible exact damperlaw5_Shares.mono _ _)
      | (with_reducible exact LeO.refl _)
      | (with_reducible exact LeO.none _)
      | (with_reducible refine LeO.ite ?_ ?_)
      | (with_reducible refine LeO.bind ?_ (fun _ => ?_))
      | exact ih0 _ _ _ _
      | exact ih1 _ _ _ _ _
      | exact damperlaw5_Shares.mono _ _
      | exact LeO.none _
      | refine LeO.ite ?_ ?_
      | refine LeO.bind ?_ (fun _ => ?_)
def damperlaw5_Make.T6 : Bool × List (List Nat × List Nat) := (true, [([], []), ([0], [0]), ([], []), ([2], [2]), ([3], [3]), ([4], [4]), ([5], [5]), ([6], [6]), ([], []), ([], []), ([], []), ([9, 10], [9, 10]), ([11], [11]), ([12], [12]), ([13, 8], [13]), ([8, 14], [8, 14]), ([15], [15]), ([7, 16], [7, 16]), ([17], [17]), ([1, 18, 14], [1, 18]), ([0, 1, 2, 3, 4, 5, 6, 7, 8, 9, 10, 11, 12, 13, 14, 15, 16, 17, 18, 19], []), ([20, 19, 19, 0, 1, 2, 3, 4, 5, 6, 7, 8, 9, 10, 11, 12, 13, 14, 15, 16, 17, 18, 19], [19, 20])])
def damperlaw5_Make.B6 : List Nat := [0, 1, 0, 4, 12, 28, 60, 124, 0, 0, 0, 1536, 3584, 7680, 16128, 32512, 65280, 131068, 262140, 524287, 1048575, 2097151]
theorem damperlaw5_Make.tab6 : rtab .any (opsOf Tryd.f11 6) = damperlaw5_Make.T6 := by kernel_rfl
theorem damperlaw5_Make.bits6 : waitsOk damperlaw5_Make.T6.2 damperlaw5_Make.B6 = true := by kernel_rfl
set_option maxHeartbeats 8000000 in
set_option maxRecDepth 100000 in
theorem damperlaw5_Make.calls (k : Nat) (A0 : Option Addr) (c0 : Nat) (l0 : List Int) (A1 : Option Addr) (c1 : Nat) (l1 : List Int) (r1 : List (S32)) (r2 : List (S35)) (w : World) (hr0 : Kd.C (Kd.int .i64) w A0 l0.length l0) (hc0 : l0.length ≤ c0) (hr1 : Kd.C (Kd.int .i64) w A1 l1.length l1) (hc1 : l1.length ≤ c1) (h : damperlaw5_Make.f k l0 l1 = some (r1, r2)) :
    Calls Tryd.prog 11 #[.slice A0 l0.length c0, .slice A1 l1.length c1] w fun e w' => ∃ v0_ v1_ : Value, e = .returned (.agg #[v0_, v1_]) ∧ Kd.R k32 32 w' w.heap.size (fun _ => True) v0_ r1 ∧ Kd.R k35 35 w' w.heap.size (fun _ => True) v1_ r2 ∧ Below w.heap.size w w' := by
  have hu25 := Tryd.underlying25
  have hu35 := Tryd.underlying35
  have HR0 := Aside0.mk hr0
  have HC0 := Aside0.mk hc0
  clear hr0 hc0
  have HR1 := Aside0.mk hr1
  have HC1 := Aside0.mk hc1
  clear hr1 hc1
  have HB := Aside0.mk (Below.refl w.heap.size w)
  have H : ((damperlaw5_Shares.f k l0).bind fun t203 => (damperlaw5_Make.l0 k l1 0 t203 ([] : List (S35)))) = some (r1, r2) := h
  clear h
  replace H := Option.bind_eq_some_iff.mp H
  obtain ⟨t203, A30, H⟩ := H
  replace H : (damperlaw5_Make.l0 k l1 0 t203 ([] : List (S35))) = some (r1, r2) := H
  have A3 := Aside0.mk A30
  clear A30
  have H' := Aside0.mk H
  clear H
  go_enter Tryd.func11, Tryd.ntmps11
  go_wp2_with (first | (go_at_call 14; refine (damperlaw5_within.keep _ _ rfl (by first | decide | assumption | exact wi_ne (by assumption) | exact wi_ne' (by assumption) | omega) _).mono ?_; rintro e w' ⟨rfl, rfl⟩) | ((with_reducible refine gate_dst (N := 4) rfl ?_); (try (refine gate_guard (by rfl) ?_; dsimp only)); refine box_event ?hg (N := 4) ?hd (cs := #[.slice none 0 0, .slice none 0 0]) (t := 25) ?hr ?_; (case hd => rfl); (case hg => rfl); (case hr => first | (go_simp; done) | (go_simp; rfl)); intro gb202 hg w4 hbox hb; have n0_ := Aside0.mk (below_step (by repeat (first | (with_reducible first | exact HB.out | apply below_alloc | apply pw_below_drewN | apply below_drew1) | exact HB.out)) hb); have n1_ := Aside0.mk (hbox); have n2_ := Aside0.mk ((by rw [hg]; exact (below_size (by repeat (first | (with_reducible first | exact HB.out | apply below_alloc | apply pw_below_drewN | apply below_drew1) | exact HB.out))) : w.heap.size ≤ gb202)); have n3_ := Aside0.mk ((by rw [hg]; exact (below_size (by repeat (first | (with_reducible first | exact HB.out | apply below_alloc | apply pw_below_drewN | apply below_drew1) | exact HB.out))) : w.heap.size ≤ gb202)); clear HB; have HB := n0_; have BK202 := n1_; have GW202 := n2_; have GE202 := n3_; clear n0_ n1_ n2_ n3_; clear hb hbox hg) | ((with_reducible refine gate_callee (f := 24) rfl ?_); refine goesL_ (some 8) rfl rfl Tryd.func24 (by kernel_rfl) rfl #[.slice A0 l0.length c0] rfl (by (try simp only [List.map_toArray, List.map_cons, List.map_nil]); first | done | rfl | (simp only [List.length_drop, List.length_take]; rfl)) ?_; (with_reducible refine (damperlaw5_Shares.calls k _ _ l0 t203 _ ?side1 ?side2 A3.out).mono ?_); (case side1 => repeat (first | exact (Kd.C_below HR0.out HB.out) | (with_reducible refine Kd.C_alloc ?_ _) | (with_reducible refine Kd.C_drewN ?_ _) | (with_reducible refine Kd.C_drew ?_))); (case side2 => exact HC0.out); rintro e w5 ⟨v204, rfl, ho0, hb⟩; refine ⟨_, rfl, ?_⟩; have n0_ := Aside0.mk (Kd.R_lower ho0 (below_size (by repeat (first | (with_reducible first | exact HB.out | apply below_alloc | apply pw_below_drewN | apply below_drew1 | refine below_set ?_ GE202.out) | exact HB.out)))); have n1_ := Aside0.mk (blk_below (g := gb202) (pk BK202) hb); have n2_ := Aside0.mk (below_step (by repeat (first | (with_reducible first | exact HB.out | apply below_alloc | apply pw_below_drewN | apply below_drew1 | refine below_set ?_ GE202.out) | exact HB.out)) hb); clear BK202; clear HB; have HO205 := n0_; have BK202 := n1_; have HB := n2_; clear n0_ n1_ n2_; (try clear hb); (try clear hb2); (try clear hk); (try clear hi); (try clear ho0); obtain ⟨Ao6, co6, eo6⟩ := Kd.R_slice HO205.out; subst eo6) | ((with_reducible refine gate_dst (N := 5) rfl ?_); (try (refine gate_guard (by rfl) ?_; dsimp only)); refine box_event ?hg (N := 5) ?hd (cs := #[.slice none 0 0, .slice none 0 0]) (t := 25) ?hr ?_; (case hd => rfl); (case hg => rfl); (case hr => first | (go_simp; done) | (go_simp; rfl)); intro gb206 hg w7 hbox hb; have n0_ := Aside0.mk (Kd.R_below (by (with_reducible repeat (first | apply Kd.R_alloc | apply Kd.R_drewN | apply Kd.R_drew)); exact HO205.out) hb); have n1_ := Aside0.mk (blk_below (g := gb202) (pk BK202) hb); have n2_ := Aside0.mk (below_step (by repeat (first | (with_reducible first | exact HB.out | apply below_alloc | apply pw_below_drewN | apply below_drew1 | refine below_set ?_ GE202.out) | exact HB.out)) hb); have n3_ := Aside0.mk (hbox); have n4_ := Aside0.mk ((by rw [hg]; exact (below_size (by repeat (first | (with_reducible first | exact HB.out | apply below_alloc | apply pw_below_drewN | apply below_drew1 | refine below_set ?_ GE202.out) | exact HB.out))) : w.heap.size ≤ gb206)); have n5_ := Aside0.mk ((by rw [hg]; exact (below_size (by repeat (first | (with_reducible first | exact HB.out | apply below_alloc | apply pw_below_drewN | apply below_drew1 | refine below_set ?_ GE202.out) | exact HB.out))) : w.heap.size ≤ gb206)); have n6_ := Aside0.mk ((ne_lt hg (pk BK202) : gb202 ≠ gb206)); have n7_ := Aside0.mk ((ne_gt hg (pk BK202) : gb206 ≠ gb202)); clear HO205; clear BK202; clear HB; have HO205 := n0_; have BK202 := n1_; have HB := n2_; have BK206 := n3_; have GW206 := n4_; have GE206 := n5_; have NB202_206 := n6_; have NB206_202 := n7_; clear n0_ n1_ n2_ n3_ n4_ n5_ n6_ n7_; clear hb hbox hg; have hnb8 := NB206_202.out; have hnc8 := NB202_206.out; have hcz9_0 : w7.cell? ⟨gb206, 0, none⟩ = some (.slice none 0 0) := bc BK206 0; have hcz9_1 : w7.cell? ⟨gb206, 1, none⟩ = some (.slice none 0 0) := bc BK206 1; have hfz9_0 := blk_frozen BK206.out 0; have hfz9_1 := blk_frozen BK206.out 1))
  go_loopg [6] k (fun kq v6 w' => ∃ (x6_1 : Int) (x207001_1 : List (S35)) (u207001 : Value), v6 = .int .i64 x6_1 ∧ Aside0 (damperlaw5_Make.l0 kq l1 x6_1 t203 x207001_1 = some (r1, r2)) ∧ Aside0 (kq ≤ k) ∧ Aside0 (Kd.R k32 32 w' w.heap.size (fun _ => True) (.slice Ao6 t203.length co6) t203) ∧ Aside0 (Kd.R k35 35 w' w.heap.size (fun _ => True) u207001 x207001_1) ∧ Aside0 (w'.heap[gb202]? = some (.cells #[(.slice none 0 0), (.slice none 0 0)] 25 (0, 0))) ∧ Aside0 (w'.heap[gb206]? = some (.cells #[(.slice Ao6 t203.length co6), u207001] 25 (0, 0))) ∧ Aside0 (Below w.heap.size w w'))
  case atStart => exact ⟨(0), (([] : List (S35))), (.slice none 0 0), (by first | rfl | (simp; done) | (simp [*]; done)), H', ⟨Nat.le_refl _⟩, ⟨by (with_reducible repeat (first | apply Kd.R_alloc | apply Kd.R_drewN | apply Kd.R_drew)); exact Kd.R_mono (Kd.R_far (p := ⟨gb206, 1, none⟩) (Kd.R_far (p := ⟨gb206, 0, none⟩) (Kd.R_types HO205.out BK206.out (by decide)) (fun _ hk => hk.2) (.slice Ao6 t203.length co6)) (fun _ hk => hk.2) (.slice none 0 0)) (fun _ hk => trivial)⟩, ⟨by first | exact Kd.R_nil _ _ _ _ _ | exact Kd.N_nil _ _ _ _ _ | exact Kd.V_nil _ _ _ _ _ | exact Kd.Q_nil _ _ _ _ _ | exact Kd.S_nil _ _ _ _ _⟩, ⟨by (repeat ((with_reducible repeat (first | refine blk_drewN ?_ _ | refine blk_drew ?_ | refine blk_alloc ?_ _)); with_reducible refine blk_far ?_ NB202_206.out _)); (with_reducible repeat (first | refine blk_drewN ?_ _ | refine blk_drew ?_ | refine blk_alloc ?_ _)); exact BK202.out⟩, ⟨by (with_reducible repeat (first | refine blk_drewN ?_ _ | refine blk_drew ?_ | refine blk_alloc ?_ _)); refine blk_put (cs := #[.slice Ao6 t203.length co6, .slice none 0 0]) ?_ 1 _ rfl; (with_reducible repeat (first | refine blk_drewN ?_ _ | refine blk_drew ?_ | refine blk_alloc ?_ _)); refine blk_put (cs := #[.slice none 0 0, .slice none 0 0]) ?_ 0 _ rfl; (with_reducible repeat (first | refine blk_drewN ?_ _ | refine blk_drew ?_ | refine blk_alloc ?_ _)); exact BK206.out⟩, ⟨by repeat (first | (with_reducible first | exact HB.out | apply below_alloc | apply pw_below_drewN | apply below_drew1 | refine below_set ?_ GE202.out | refine below_set ?_ GE206.out) | exact HB.out)⟩⟩
  case round =>
    clear H'
    try clear c1
    try clear c2
    try clear p2
    try clear c8
    try clear hcz9_0
    try clear hcz9_1
    try clear hfz9_0
    try clear hfz9_1
    obtain ⟨x6_1, x207001_1, u207001, rfl, HA, HK1, HO_207000, HO_207001, BK202, BK206, HB⟩ := hrel
    cases gk with
    | zero => exact absurd HA.out (by simp [damperlaw5_Make.l0])
    | succ k1 =>
      have H := HA.out
      clear HA
      simp only [damperlaw5_Make.l0] at H
      have HC10 := Aside0.mk H
      clear H
      go_upto_region 3 with (first | (go_at_call 14; refine (damperlaw5_within.keep _ _ rfl (by first | decide | assumption | exact wi_ne (by assumption) | exact wi_ne' (by assumption) | omega) _).mono ?_; rintro e w' ⟨rfl, rfl⟩))
      go_cut [17] (fun v17 wc => ∃ (kq : Nat) (x17_9 : Bool), v17 = .bool x17_9 ∧ Aside0 (damperlaw5_Make.j1 kq l1 x6_1 x17_9 t203 x207001_1 = some (r1, r2)) ∧ Aside0 (kq ≤ k1) ∧ Aside0 (Kd.R k32 32 wc w.heap.size (fun _ => True) (.slice Ao6 t203.length co6) t203) ∧ Aside0 (Kd.R k35 35 wc w.heap.size (fun _ => True) u207001 x207001_1) ∧ Aside0 (wc.heap[gb202]? = some (.cells #[(.slice none 0 0), (.slice none 0 0)] 25 (0, 0))) ∧ Aside0 (wc.heap[gb206]? = some (.cells #[(.slice Ao6 t203.length co6), u207001] 25 (0, 0))) ∧ Aside0 (Below w.heap.size w wc))
      case first =>
        have H := HC10.out
        clear HC10
        by_cases c11 : x6_1 < 4
        · rw [if_pos c11] at H
          have c11b0 : decide (x6_1 < 4) = true := decide_eq_true c11
          clear c11
          (first | rw [c11b0] | (simp only [i64_w, i32_w]; rw [c11b0]) | rw [c11b1] | skip)
          have H' := Aside0.mk H
          clear H
          go_wp2_with (first | (go_at_call 14; refine (damperlaw5_within.keep _ _ rfl (by first | decide | assumption | exact wi_ne (by assumption) | exact wi_ne' (by assumption) | omega) _).mono ?_; rintro e w' ⟨rfl, rfl⟩))
          go_meet
          case rel => exact ⟨_, (decide (x6_1 < (l1.length : Int))), (by first | rfl | (simp; done) | (simp [*]; done)), H', ⟨by have := HK1.out; first | omega | exact Nat.le_refl _⟩, ⟨by (with_reducible repeat (first | apply Kd.R_alloc | apply Kd.R_drewN | apply Kd.R_drew)); exact HO_207000.out⟩, ⟨by (with_reducible repeat (first | apply Kd.R_alloc | apply Kd.R_drewN | apply Kd.R_drew)); exact HO_207001.out⟩, ⟨by (with_reducible repeat (first | refine blk_drewN ?_ _ | refine blk_drew ?_ | refine blk_alloc ?_ _)); exact BK202.out⟩, ⟨by (with_reducible repeat (first | refine blk_drewN ?_ _ | refine blk_drew ?_ | refine blk_alloc ?_ _)); exact BK206.out⟩, ⟨by repeat (first | (with_reducible first | exact HB.out | apply below_alloc | apply pw_below_drewN | apply below_drew1 | refine below_set ?_ GE202.out | refine below_set ?_ GE206.out) | exact HB.out)⟩⟩
        · rw [if_neg c11] at H
          have c11b0 : decide (x6_1 < 4) = false := decide_eq_false c11
          clear c11
          (first | rw [c11b0] | (simp only [i64_w, i32_w]; rw [c11b0]) | rw [c11b1] | skip)
          have H' := Aside0.mk H
          clear H
          go_wp2_with (first | (go_at_call 14; refine (damperlaw5_within.keep _ _ rfl (by first | decide | assumption | exact wi_ne (by assumption) | exact wi_ne' (by assumption) | omega) _).mono ?_; rintro e w' ⟨rfl, rfl⟩))
          go_meet
          case rel => exact ⟨_, (false), (by first | rfl | (simp; done) | (simp [*]; done)), H', ⟨by have := HK1.out; first | omega | exact Nat.le_refl _⟩, ⟨by (with_reducible repeat (first | apply Kd.R_alloc | apply Kd.R_drewN | apply Kd.R_drew)); exact HO_207000.out⟩, ⟨by (with_reducible repeat (first | apply Kd.R_alloc | apply Kd.R_drewN | apply Kd.R_drew)); exact HO_207001.out⟩, ⟨by (with_reducible repeat (first | refine blk_drewN ?_ _ | refine blk_drew ?_ | refine blk_alloc ?_ _)); exact BK202.out⟩, ⟨by (with_reducible repeat (first | refine blk_drewN ?_ _ | refine blk_drew ?_ | refine blk_alloc ?_ _)); exact BK206.out⟩, ⟨by repeat (first | (with_reducible first | exact HB.out | apply below_alloc | apply pw_below_drewN | apply below_drew1 | refine below_set ?_ GE202.out | refine below_set ?_ GE206.out) | exact HB.out)⟩⟩
      case rest =>
        clear HC10
        try clear c1
        try clear c2
        try clear p2
        try clear c8
        try clear c11
        try clear c11b0
        try clear c11b1
        try clear hcz9_0
        try clear hcz9_1
        try clear hfz9_0
        try clear hfz9_1
        try clear p2
        obtain ⟨kq, x17_9, rfl, HA, HJ9, HO_207000, HO_207001, BK202, BK206, HB⟩ := hcut
        cases kq with
        | zero => exact absurd HA.out (by simp [damperlaw5_Make.j1])
        | succ kj9 =>
          have H := HA.out
          clear HA
          simp only [damperlaw5_Make.j1] at H
          by_cases c12 : x17_9 = true
          · subst c12
            have H1 : (if 0 ≤ x6_1 then (if x6_1 < (l1.length : Int) then (if (wi (rd l1 x6_1) 2) = 0 then ((some (([(wrap64 (48 + x6_1)) % 256] : List Int) : List Int)).bind fun y208 => (if 1 + (strOfNums y208).size ≤ 9223372036854775807 then ((some (([(⟨#[97, 112, 105, 45, 49]⟩ : ByteArray), (⟨#[97, 112, 105, 45, 50]⟩ : ByteArray), (⟨#[119, 101, 98, 45, 49]⟩ : ByteArray), (⟨#[119, 101, 98, 45, 49, 50]⟩ : ByteArray), (⟨#[119, 101, 98, 45, 50]⟩ : ByteArray), (⟨#[119, 101, 98, 45, 51]⟩ : ByteArray)] : List ByteArray) : List ByteArray)).bind fun y211 => (if 0 ≤ (wi (wrap64 (Int.tdiv (rd l1 x6_1) 2)) 6) then (if (wi (wrap64 (Int.tdiv (rd l1 x6_1) 2)) 6) < (y211.length : Int) then (if x207001_1.length < 4398046511104 then (damperlaw5_Make.l0 kj9 l1 (wrap64 (x6_1 + 1)) t203 (x207001_1 ++ [(⟨(⟨#[116]⟩ : ByteArray) ++ (strOfNums y208), rdOf ByteArray.empty y211 (wi (wrap64 (Int.tdiv (rd l1 x6_1) 2)) 6)⟩ : S35)])) else (none)) else (none)) else (none))) else (none))) else (damperlaw5_Make.l0 kj9 l1 (wrap64 (x6_1 + 1)) t203 x207001_1)) else (none)) else (none)) = some (r1, r2) := by rw [if_pos rfl] at H; exact H
            clear H
            have H := H1
            clear H1
            by_cases c13 : 0 ≤ x6_1
            rotate_left
            · rw [if_neg c13] at H
              exact absurd H (by simp)
            rw [if_pos c13] at H
            have c13b0 : decide (0 ≤ x6_1) = true := decide_eq_true c13
            clear c13
            by_cases c14 : x6_1 < (l1.length : Int)
            rotate_left
            · rw [if_neg c14] at H
              exact absurd H (by simp)
            rw [if_pos c14] at H
            have c14b0 : decide (x6_1 < (l1.length : Int)) = true := decide_eq_true c14
            clear c14
            obtain ⟨ji15, hji15⟩ : ∃ j_ : Int, (wi (rd l1 x6_1) 2) = j_ := ⟨_, rfl⟩
            replace H : (if (ji15) = 0 then ((some (([(wrap64 (48 + x6_1)) % 256] : List Int) : List Int)).bind fun y208 => (if 1 + (strOfNums y208).size ≤ 9223372036854775807 then ((some (([(⟨#[97, 112, 105, 45, 49]⟩ : ByteArray), (⟨#[97, 112, 105, 45, 50]⟩ : ByteArray), (⟨#[119, 101, 98, 45, 49]⟩ : ByteArray), (⟨#[119, 101, 98, 45, 49, 50]⟩ : ByteArray), (⟨#[119, 101, 98, 45, 50]⟩ : ByteArray), (⟨#[119, 101, 98, 45, 51]⟩ : ByteArray)] : List ByteArray) : List ByteArray)).bind fun y211 => (if 0 ≤ (wi (wrap64 (Int.tdiv (rd l1 x6_1) 2)) 6) then (if (wi (wrap64 (Int.tdiv (rd l1 x6_1) 2)) 6) < (y211.length : Int) then (if x207001_1.length < 4398046511104 then (damperlaw5_Make.l0 kj9 l1 (wrap64 (x6_1 + 1)) t203 (x207001_1 ++ [(⟨(⟨#[116]⟩ : ByteArray) ++ (strOfNums y208), rdOf ByteArray.empty y211 (wi (wrap64 (Int.tdiv (rd l1 x6_1) 2)) 6)⟩ : S35)])) else (none)) else (none)) else (none))) else (none))) else (damperlaw5_Make.l0 kj9 l1 (wrap64 (x6_1 + 1)) t203 x207001_1)) = some (r1, r2) := by first | (rw [hji15] at H; exact H) | (simp only [hji15] at H ⊢; exact H)
            by_cases c16 : (ji15) = 0
            · rw [if_pos c16] at H
              have c16b0 : ((ji15) == 0) = true := beq_iff_eq.mpr c16
              have c16b1 : ((ji15) != 0) = false := bne_eq_false_iff_eq.mpr c16
              clear c16
              obtain ⟨y208, hy208⟩ : ∃ y_ : List Int, y_ = (([(wrap64 (48 + x6_1)) % 256] : List Int)) := ⟨_, rfl⟩
              replace H : (if 1 + (strOfNums y208).size ≤ 9223372036854775807 then ((some (([(⟨#[97, 112, 105, 45, 49]⟩ : ByteArray), (⟨#[97, 112, 105, 45, 50]⟩ : ByteArray), (⟨#[119, 101, 98, 45, 49]⟩ : ByteArray), (⟨#[119, 101, 98, 45, 49, 50]⟩ : ByteArray), (⟨#[119, 101, 98, 45, 50]⟩ : ByteArray), (⟨#[119, 101, 98, 45, 51]⟩ : ByteArray)] : List ByteArray) : List ByteArray)).bind fun y211 => (if 0 ≤ (wi (wrap64 (Int.tdiv (rd l1 x6_1) 2)) 6) then (if (wi (wrap64 (Int.tdiv (rd l1 x6_1) 2)) 6) < (y211.length : Int) then (if x207001_1.length < 4398046511104 then (damperlaw5_Make.l0 kj9 l1 (wrap64 (x6_1 + 1)) t203 (x207001_1 ++ [(⟨(⟨#[116]⟩ : ByteArray) ++ (strOfNums y208), rdOf ByteArray.empty y211 (wi (wrap64 (Int.tdiv (rd l1 x6_1) 2)) 6)⟩ : S35)])) else (none)) else (none)) else (none))) else (none)) = some (r1, r2) := by first | (rw [hy208]; with_reducible exact H) | (have H2_ := (Option.bind_some _ _).symm.trans H; rw [hy208]; with_reducible exact H2_) | (have H2_ := (Option.bind_some _ _).symm.trans H; with_reducible exact H2_) | with_reducible exact H | (rw [hy208]; exact H) | exact H
              have Ny208 := Aside0.mk hy208
              clear hy208
              by_cases c17 : 1 + (strOfNums y208).size ≤ 9223372036854775807
              rotate_left
              · rw [if_neg c17] at H
                exact absurd H (by simp)
              rw [if_pos c17] at H
              have c17b0 := eq_true c17
              have c17b1 : decide (1 + (strOfNums y208).size ≤ 9223372036854775807) = true := decide_eq_true c17
              try have c17b2 : (9223372036854775807 < 1 + (strOfNums y208).size) = False := eq_false (Nat.not_lt.2 c17)
              try (have c17b4 := c17; simp at c17b4; have c17b5 := eq_false (Nat.not_lt.2 c17b4))
              obtain ⟨y211, hy211⟩ : ∃ y_ : List ByteArray, y_ = (([(⟨#[97, 112, 105, 45, 49]⟩ : ByteArray), (⟨#[97, 112, 105, 45, 50]⟩ : ByteArray), (⟨#[119, 101, 98, 45, 49]⟩ : ByteArray), (⟨#[119, 101, 98, 45, 49, 50]⟩ : ByteArray), (⟨#[119, 101, 98, 45, 50]⟩ : ByteArray), (⟨#[119, 101, 98, 45, 51]⟩ : ByteArray)] : List ByteArray)) := ⟨_, rfl⟩
              replace H : (if 0 ≤ (wi (wrap64 (Int.tdiv (rd l1 x6_1) 2)) 6) then (if (wi (wrap64 (Int.tdiv (rd l1 x6_1) 2)) 6) < (y211.length : Int) then (if x207001_1.length < 4398046511104 then (damperlaw5_Make.l0 kj9 l1 (wrap64 (x6_1 + 1)) t203 (x207001_1 ++ [(⟨(⟨#[116]⟩ : ByteArray) ++ (strOfNums y208), rdOf ByteArray.empty y211 (wi (wrap64 (Int.tdiv (rd l1 x6_1) 2)) 6)⟩ : S35)])) else (none)) else (none)) else (none)) = some (r1, r2) := by first | (rw [hy211]; with_reducible exact H) | (have H2_ := (Option.bind_some _ _).symm.trans H; rw [hy211]; with_reducible exact H2_) | (have H2_ := (Option.bind_some _ _).symm.trans H; with_reducible exact H2_) | with_reducible exact H | (rw [hy211]; exact H) | exact H
              have Ny211 := Aside0.mk hy211
              clear hy211
              obtain ⟨ji18, hji18⟩ : ∃ j_ : Int, (wi (wrap64 (Int.tdiv (rd l1 x6_1) 2)) 6) = j_ := ⟨_, rfl⟩
              replace H : (if 0 ≤ (ji18) then (if (ji18) < (y211.length : Int) then (if x207001_1.length < 4398046511104 then (damperlaw5_Make.l0 kj9 l1 (wrap64 (x6_1 + 1)) t203 (x207001_1 ++ [(⟨(⟨#[116]⟩ : ByteArray) ++ (strOfNums y208), rdOf ByteArray.empty y211 (ji18)⟩ : S35)])) else (none)) else (none)) else (none)) = some (r1, r2) := by first | (rw [hji18] at H; exact H) | (simp only [hji18] at H ⊢; exact H)
              by_cases c19 : 0 ≤ (ji18)
              rotate_left
              · rw [if_neg c19] at H
                exact absurd H (by simp)
              rw [if_pos c19] at H
              have c19b0 : decide (0 ≤ (ji18)) = true := decide_eq_true c19
              clear c19
              by_cases c20 : (ji18) < (y211.length : Int)
              rotate_left
              · rw [if_neg c20] at H
                exact absurd H (by simp)
              rw [if_pos c20] at H
              have c20b0 : decide ((ji18) < (y211.length : Int)) = true := decide_eq_true c20
              clear c20
              by_cases c21 : x207001_1.length < 4398046511104
              rotate_left
              · rw [if_neg c21] at H
                exact absurd H (by simp)
              rw [if_pos c21] at H
              have LMc21 := Aside0.mk c21
              clear c21
              obtain ⟨y216, hy216⟩ : ∃ y_ : List (S35), y_ = (x207001_1 ++ [(⟨(⟨#[116]⟩ : ByteArray) ++ (strOfNums y208), rdOf ByteArray.empty y211 (ji18)⟩ : S35)]) := ⟨_, rfl⟩
              replace H : (damperlaw5_Make.l0 kj9 l1 (wrap64 (x6_1 + 1)) t203 y216) = some (r1, r2) := by first | (rw [hy216]; with_reducible exact H) | (have H2_ := (Option.bind_some _ _).symm.trans H; rw [hy216]; with_reducible exact H2_) | (have H2_ := (Option.bind_some _ _).symm.trans H; with_reducible exact H2_) | with_reducible exact H | (rw [hy216]; exact H) | exact H
              have Ny216 := Aside0.mk hy216
              clear hy216
              have H' := Aside0.mk H
              clear H
              have p207 : 0 ≤ (x6_1 : Int) := of_decide_eq_true (by first | (with_reducible assumption) | assumption)
              have q207 : x6_1 < (l1.length : Int) := of_decide_eq_true (by first | (with_reducible assumption) | assumption)
              obtain ⟨ad207, e207, hx207_0⟩ := Kd.at_int HR1.out x6_1 p207 q207
              cases e207
              replace hx207_0 := (HB.out.cell (World.block_lt_of_cell? w _ hx207_0)).trans hx207_0
              replace p207 := eq_true p207
              replace q207 := eq_true q207
              obtain ⟨Ao22, co22, eo22⟩ := Kd.R_slice HO_207001.out
              subst eo22
              try go_wp2_with (first | (go_at_call 14; refine (damperlaw5_within.keep _ _ rfl (by first | decide | assumption | exact wi_ne (by assumption) | exact wi_ne' (by assumption) | omega) _).mono ?_; rintro e w' ⟨rfl, rfl⟩))
              have pi215 : (0 ≤ ((ji18) : Int)) = True := eq_true (of_decide_eq_true (by first | (with_reducible assumption) | assumption))
              have qi215 : ((ji18) < (y211.length : Int)) = True := eq_true (of_decide_eq_true (by first | (with_reducible assumption) | assumption))
              replace HO_207000 := Aside0.mk (Kd.R_drew HO_207000.out)
              replace HO_207001 := Aside0.mk (Kd.R_drew HO_207001.out)
              replace BK202 := Aside0.mk (blk_drew BK202.out)
              replace BK206 := Aside0.mk (blk_drew BK206.out)
              replace HB := Aside0.mk (below_drew1 HB.out)
              have p214 : 0 ≤ (x6_1 : Int) := of_decide_eq_true (by first | (with_reducible assumption) | assumption)
              have q214 : x6_1 < (l1.length : Int) := of_decide_eq_true (by first | (with_reducible assumption) | assumption)
              obtain ⟨ad214, e214, hx214_0⟩ := Kd.at_int HR1.out x6_1 p214 q214
              have hw214_0 := hx214_0
              obtain rfl : ad207 = ad214 := (by injection e214)
              replace hx214_0 := (HB.out.cell (World.block_lt_of_cell? w _ hx214_0)).trans hx214_0
              replace p214 := eq_true p214
              replace q214 := eq_true q214
              refine start_ (n := 22) (S := fun w' => w'.cell? ⟨gb206, 0, none⟩ = some (.slice Ao6 t203.length co6) ∧ w'.cell? ⟨gb206, 1, none⟩ = some (.slice Ao22 x207001_1.length co22) ∧ w'.cell? (ad207.add (x6_1).toNat) = some (.int .i64 (rd l1 x6_1))) (ds := [21]) #[false, false, false, false, false, false, false, false, false, false, false, false, false, false, false, false, false, false, false, false, false, false] (by kernel_rfl) rfl rfl ⟨bc BK206 0, bc BK206 1, ((HB.out.cell (World.block_lt_of_cell? w _ hw214_0)).trans hw214_0)⟩ (fun hHeld => ?_); refine with_tabW damperlaw5_Make.tab6 damperlaw5_Make.bits6 (fun HT_ HW_ => ?_)
              generalize wc.drew = w23 at HO_207000 HO_207001 BK202 BK206 HB hx214_0 hHeld ⊢
              refine pure_ (i := 0) (N := some 26) (v := ?_) (a' := ?_) #[true, false, false, false, false, false, false, false, false, false, false, false, false, false, false, false, false, false, false, false, false, false] rfl rfl (any_of HT_.out (by kernel_rfl)) (fun _ _ _ h => h) (Or.inl ⟨by rfl, ?_⟩) ?_ ?_
              rotate_left
              · intro w'
                go_simp
                with_reducible rfl
              rotate_left
              · simp only [Act.put, List.setIfInBounds_toArray, List.set_cons_zero, List.set_cons_succ, i64_w, i32_w]
                rfl
              refine pure_ (i := 2) (N := some 28) (v := ?_) (a' := ?_) #[true, false, true, false, false, false, false, false, false, false, false, false, false, false, false, false, false, false, false, false, false, false] rfl rfl (any_of HT_.out (by kernel_rfl)) (fun _ _ _ h => h) (Or.inl ⟨by rfl, ?_⟩) ?_ ?_
              rotate_left
              · intro w'
                go_simp
                with_reducible rfl
              rotate_left
              · simp only [Act.put, List.setIfInBounds_toArray, List.set_cons_zero, List.set_cons_succ, i64_w, i32_w]
                rfl
              refine pure_ (i := 3) (N := some 29) (v := ?_) (a' := ?_) #[true, false, true, true, false, false, false, false, false, false, false, false, false, false, false, false, false, false, false, false, false, false] rfl rfl (any_of HT_.out (by kernel_rfl)) (fun _ _ _ h => h) (Or.inl ⟨by rfl, ?_⟩) ?_ ?_
              rotate_left
              · intro w'
                go_simp
                with_reducible rfl
              rotate_left
              · simp only [Act.put, List.setIfInBounds_toArray, List.set_cons_zero, List.set_cons_succ, i64_w, i32_w]
                rfl
              refine pure_ (i := 4) (N := some 30) (v := ?_) (a' := ?_) #[true, false, true, true, true, false, false, false, false, false, false, false, false, false, false, false, false, false, false, false, false, false] rfl rfl (any_of HT_.out (by kernel_rfl)) (fun _ _ _ h => h) (Or.inl ⟨by rfl, ?_⟩) ?_ ?_
              rotate_left
              · intro w'
                go_simp
                with_reducible rfl
              rotate_left
              · simp only [Act.put, List.setIfInBounds_toArray, List.set_cons_zero, List.set_cons_succ, i64_w, i32_w]
                rfl
              refine pure_ (i := 9) (N := some 35) (v := ?_) (a' := ?_) #[true, false, true, true, true, false, false, false, false, true, false, false, false, false, false, false, false, false, false, false, false, false] rfl rfl (any_of HT_.out (by kernel_rfl)) (fun _ _ _ h => h) (Or.inl ⟨by rfl, ?_⟩) ?_ ?_
              rotate_left
              · intro w'
                go_simp
                with_reducible rfl
              rotate_left
              · simp only [Act.put, List.setIfInBounds_toArray, List.set_cons_zero, List.set_cons_succ, i64_w, i32_w]
                rfl
              refine pure_ (i := 10) (N := some 36) (v := ?_) (a' := ?_) #[true, false, true, true, true, false, false, false, false, true, true, false, false, false, false, false, false, false, false, false, false, false] rfl rfl (any_of HT_.out (by kernel_rfl)) (fun _ _ _ h => h) (Or.inl ⟨by rfl, ?_⟩) ?_ ?_
              rotate_left
              · intro w'
                go_simp
                with_reducible rfl
              rotate_left
              · simp only [Act.put, List.setIfInBounds_toArray, List.set_cons_zero, List.set_cons_succ, i64_w, i32_w]
                rfl
              refine pure_ (i := 11) (N := some 37) (v := ?_) (a' := ?_) #[true, false, true, true, true, false, false, false, false, true, true, true, false, false, false, false, false, false, false, false, false, false] rfl rfl (any_of HT_.out (by kernel_rfl)) (fun _ _ _ h => h) (Or.inl ⟨by rfl, ?_⟩) ?_ ?_
              rotate_left
              · intro w'
                go_simp
                with_reducible rfl
              rotate_left
              · simp only [Act.put, List.setIfInBounds_toArray, List.set_cons_zero, List.set_cons_succ, i64_w, i32_w]
                rfl
              refine take_ (i := 1) (N := some 27) (v := ?_) (a' := ?_) #[true, true, true, true, true, false, false, false, false, true, true, true, false, false, false, false, false, false, false, false, false, false] rfl rfl (take_ofW HT_.out HW_.out (by kernel_rfl)) (fun _ _ _ h => h) (Or.inl ⟨by rfl, ?_⟩) hHeld ?_ ?_
              rotate_left
              · rintro w' ⟨s0, s1, s2⟩
                go_simp
                with_reducible rfl
              rotate_left
              · simp only [Act.put, List.setIfInBounds_toArray, List.set_cons_zero, List.set_cons_succ, i64_w, i32_w]
                rfl
              refine take_ (i := 12) (N := some 38) (v := ?_) (a' := ?_) #[true, true, true, true, true, false, false, false, false, true, true, true, true, false, false, false, false, false, false, false, false, false] rfl rfl (take_ofW HT_.out HW_.out (by kernel_rfl)) (fun _ _ _ h => h) (Or.inl ⟨by rfl, ?_⟩) hHeld ?_ ?_
              rotate_left
              · rintro w' ⟨s0, s1, s2⟩
                go_simp
                with_reducible rfl
              rotate_left
              · simp only [Act.put, List.setIfInBounds_toArray, List.set_cons_zero, List.set_cons_succ, i64_w, i32_w]
                rfl
              refine pure_ (i := 13) (N := some 39) (v := ?_) (a' := ?_) #[true, true, true, true, true, false, false, false, false, true, true, true, true, true, false, false, false, false, false, false, false, false] rfl rfl (any_of HT_.out (by kernel_rfl)) (fun _ _ _ h => h) (Or.inl ⟨by rfl, ?_⟩) ?_ ?_
              rotate_left
              · intro w'
                go_simp
                with_reducible rfl
              rotate_left
              · simp only [Act.put, List.setIfInBounds_toArray, List.set_cons_zero, List.set_cons_succ, i64_w, i32_w]
                rfl
              refine join_ (σ := Value × Value × Addr) 5 #[true, true, true, true, true, true, true, true, true, true, true, true, true, true, true, true, true, false, false, false, false, false] (fun s_ => [(31, s_.1), (32, .string (strOfNums y208)), (34, s_.2.1), (42, .string (rdOf ByteArray.empty y211 (ji18))), (33, .string ((⟨#[116]⟩ : ByteArray) ++ (strOfNums y208))), (40, .int .i64 ji18), (41, .pointer (some (s_.2.2.add ((ji18)).toNat)))]) (fun s_ w' => (w'.cell? ⟨gb206, 0, none⟩ = some (.slice Ao6 t203.length co6) ∧ w'.cell? ⟨gb206, 1, none⟩ = some (.slice Ao22 x207001_1.length co22) ∧ w'.cell? (ad207.add (x6_1).toNat) = some (.int .i64 (rd l1 x6_1))) ∧ (Kd.R (Kd.int .u8) 5 w' w.heap.size (fun _ => True) s_.1 y208) ∧ (Kd.R Kd.string 9 w' w.heap.size (fun _ => True) s_.2.1 y211) ∧ (Kd.R k32 32 w' w.heap.size (fun _ => True) (.slice Ao6 t203.length co6) t203) ∧ (Kd.R k35 35 w' w.heap.size (fun _ => True) (.slice Ao22 x207001_1.length co22) x207001_1) ∧ (∃ c_, (s_.2.1 : Value) = .slice (some s_.2.2) y211.length c_) ∧ (w'.heap[gb202]? = some (.cells #[.slice none 0 0, .slice none 0 0] 25 (0, 0))) ∧ (w'.heap[gb206]? = some (.cells #[.slice Ao6 t203.length co6, .slice Ao22 x207001_1.length co22] 25 (0, 0))) ∧ (Below w.heap.size w w')) ?_ ?_
              · rintro ⟨v209, v212, adz_v212⟩ w30 ⟨hS_, h0_, h1_, h2_, h3_, h4_, h5_, h6_, h7_⟩
                have HO210 : Aside0 (Kd.R (Kd.int .u8) 5 w30 w.heap.size (fun _ => True) v209 y208) := ⟨h0_⟩
                have HO213 : Aside0 (Kd.R Kd.string 9 w30 w.heap.size (fun _ => True) v212 y211) := ⟨h1_⟩
                have HA_HO213 : Aside0 (∃ c_, (v212 : Value) = .slice (some adz_v212) y211.length c_) := ⟨h4_⟩
                replace HO_207000 : Aside0 (Kd.R k32 32 w30 w.heap.size (fun _ => True) (.slice Ao6 t203.length co6) t203) := ⟨h2_⟩
                replace HO_207001 : Aside0 (Kd.R k35 35 w30 w.heap.size (fun _ => True) (.slice Ao22 x207001_1.length co22) x207001_1) := ⟨h3_⟩
                replace BK202 := Aside0.mk h5_
                replace BK206 := Aside0.mk h6_
                replace HB : Aside0 (Below w.heap.size w w30) := ⟨h7_⟩
                clear h0_ h1_ h2_ h3_ h4_ h5_ h6_ h7_
                have hHeld := hS_
                obtain ⟨co31, eo31⟩ := HA_HO213.out
                clear HA_HO213
                subst eo31
                refine norm_ (a' := ?_) ?_ ?_
                rotate_left
                · simp only [putAll, Act.put, List.setIfInBounds_toArray, List.set_cons_zero, List.set_cons_succ]
                  rfl
                refine pure_ (i := 17) (N := some 43) (v := ?_) (a' := ?_) #[true, true, true, true, true, true, true, true, true, true, true, true, true, true, true, true, true, true, false, false, false, false] rfl rfl (any_of HT_.out (by kernel_rfl)) (fun _ _ _ h => h) (Or.inl ⟨by rfl, ?_⟩) ?_ ?_
                rotate_left
                · intro w'
                  go_simp
                  with_reducible rfl
                rotate_left
                · simp only [Act.put, List.setIfInBounds_toArray, List.set_cons_zero, List.set_cons_succ, i64_w, i32_w]
                  rfl
                refine one_ (i := 18) (N := some 44) #[true, true, true, true, true, true, true, true, true, true, true, true, true, true, true, true, true, true, true, false, false, false] rfl rfl (one_of HT_.out (by kernel_rfl)) (by decide) (fun K hK => ?_)
                with_reducible_and_instances refine value_ (w1 := ?_) (v := ?_) ?hw_ ?hN_ ?_ ?_
                (case hw_ => rfl)
                (case hN_ => rfl)
                rotate_left 2
                · go_simp
                  constructor
                  · rfl
                  · rfl
                refine hK.out _ _ ⟨(blk_cell (blk_alloc BK206.out _) 0).trans rfl, (blk_cell (blk_alloc BK206.out _) 1).trans rfl, (World.cell?_alloc_lt _ _ _ (World.block_lt_of_cell? _ _ (((HB.out.cell (World.block_lt_of_cell? w _ hw214_0)).trans hw214_0)))).trans (((HB.out.cell (World.block_lt_of_cell? w _ hw214_0)).trans hw214_0))⟩ (fun hHeld => ?_)
                clear hK K
                refine norm_ (a' := ?_) ?_ ?_
                rotate_left
                · show Act.put _ (some 44) _ = _
                  simp only [Act.put, List.setIfInBounds_toArray, List.set_cons_zero, List.set_cons_succ, i64_w, i32_w]
                  rfl
                refine one_ (i := 19) (N := some 45) #[true, true, true, true, true, true, true, true, true, true, true, true, true, true, true, true, true, true, true, true, false, false] rfl rfl (one_of HT_.out (by kernel_rfl)) (by decide) (fun K hK => ?_)
                refine Kd.R_append_step k35 (w0 := w) w.heap.size (by rfl) (.tmp 27) (.tmp 44) 23 35 (.agg #[(.string ⟨#[]⟩), (.string ⟨#[]⟩)]) 32 rfl Tryd.underlying23 info35 rfl (by decide) (by omega) (.slice Ao22 x207001_1.length co22) x207001_1 (⟨(⟨#[116]⟩ : ByteArray) ++ (strOfNums y208), rdOf ByteArray.empty y211 (ji18)⟩ : S35) [.string ((⟨#[116]⟩ : ByteArray) ++ (strOfNums y208)), .string (rdOf ByteArray.empty y211 (ji18))] (fun _ => True) (fun _ => False) rfl rfl ?aP (fun _ hk => hk.elim) ?aF ?aO ?aB ?aS ?aL ?_
                (case aP => exact k35_mkM _ _ _ (⟨(⟨#[116]⟩ : ByteArray) ++ (strOfNums y208), rdOf ByteArray.empty y211 (ji18)⟩ : S35))
                (case aB => exact (by repeat (first | (with_reducible first | exact HB.out | apply below_alloc | apply pw_below_drewN | apply below_drew1 | refine below_set ?_ GE202.out | refine below_set ?_ GE206.out) | exact HB.out)))
                (case aF => exact (fun _ _ => trivial))
                (case aO => exact (by (with_reducible repeat (first | apply Kd.R_alloc | apply Kd.R_drewN | apply Kd.R_drew)); exact HO_207001.out))
                (case aS => exact (below_size (by repeat (first | (with_reducible first | exact HB.out | apply below_alloc | apply pw_below_drewN | apply below_drew1 | refine below_set ?_ GE202.out | refine below_set ?_ GE206.out) | exact HB.out))))
                (case aL => have := LMc21.out; omega)
                intro v217 w32 ho hb hg hat
                rw [← Ny216.out] at ho
                have HO218 := Aside0.mk (ho)
                replace HO_207000 := Aside0.mk (Kd.R_over' (by (with_reducible repeat (first | apply Kd.R_alloc | apply Kd.R_drewN | apply Kd.R_drew)); exact HO_207000.out) (Kd.R_typed (by (with_reducible repeat (first | apply Kd.R_alloc | apply Kd.R_drewN | apply Kd.R_drew)); exact HO_207001.out)) (by decide) hg)
                replace BK202 := Aside0.mk (blk_grown (g := gb202) (pk BK202) hg (Kd.R_ne HO_207001.out BK202.out (by decide)))
                replace BK206 := Aside0.mk (blk_grown (g := gb206) (pk BK206) hg (Kd.R_ne HO_207001.out BK206.out (by decide)))
                replace HO210 := Aside0.mk (Kd.R_over' (by (with_reducible repeat (first | apply Kd.R_alloc | apply Kd.R_drewN | apply Kd.R_drew)); exact HO210.out) (Kd.R_typed (by (with_reducible repeat (first | apply Kd.R_alloc | apply Kd.R_drewN | apply Kd.R_drew)); exact HO_207001.out)) (by decide) hg)
                replace HO213 := Aside0.mk (Kd.R_over' (by (with_reducible repeat (first | apply Kd.R_alloc | apply Kd.R_drewN | apply Kd.R_drew)); exact HO213.out) (Kd.R_typed (by (with_reducible repeat (first | apply Kd.R_alloc | apply Kd.R_drewN | apply Kd.R_drew)); exact HO_207001.out)) (by decide) hg)
                replace HB := Aside0.mk (hb)
                clear HO_207001
                clear ho hb hg hat
                obtain ⟨Ao33, co33, eo33⟩ := Kd.R_slice HO218.out
                (first | subst eo33 | (injection eo33 with f1_ f2_ f3_; have f4_ := f1_.symm; have f5_ := f3_.symm; clear f1_ f2_ f3_; subst f4_; subst f5_))
                refine hK.out _ _ ⟨bc BK206 0, bc BK206 1, ((HB.out.cell (World.block_lt_of_cell? w _ hw214_0)).trans hw214_0)⟩ (fun hHeld => ?_)
                clear hK K
                refine norm_ (a' := ?_) ?_ ?_
                rotate_left
                · show Act.put _ (some 45) _ = _
                  simp only [Act.put, List.setIfInBounds_toArray, List.set_cons_zero, List.set_cons_succ, i64_w, i32_w]
                  rfl
                refine pure_ (i := 20) (N := some 46) (v := ?_) (a' := ?_) #[true, true, true, true, true, true, true, true, true, true, true, true, true, true, true, true, true, true, true, true, true, false] rfl rfl (any_of HT_.out (by kernel_rfl)) (fun _ _ _ h => h) (Or.inl ⟨by rfl, ?_⟩) ?_ ?_
                rotate_left
                · intro w'
                  go_simp
                  with_reducible rfl
                rotate_left
                · simp only [Act.put, List.setIfInBounds_toArray, List.set_cons_zero, List.set_cons_succ, i64_w, i32_w]
                  rfl
                refine last_ (i := 21) (N := none) #[true, true, true, true, true, true, true, true, true, true, true, true, true, true, true, true, true, true, true, true, true, true] rfl rfl (one_of HT_.out (by kernel_rfl)) (by decide) (fun K hK => ?_)
                have hs34 : w32.cell? ⟨gb206, 1, none⟩ = some (.slice Ao22 x207001_1.length co22) := bc BK206 1
                have hfs34 := blk_frozen BK206.out 1
                have hns34_0 := NB202_206.out
                have hms34_0 := NB206_202.out
                with_reducible_and_instances refine skip_ (w1 := ?_) ?hw_ ?hN_ ?_ ?_
                (case hw_ => rfl)
                (case hN_ => rfl)
                rotate_left
                · go_simp
                  rfl
                refine hK.out _ _ ?_
                clear hK K
                refine done_ (done_of HT_.out (by kernel_rfl)) ?_
                try go_wp2_with (first | (go_at_call 14; refine (damperlaw5_within.keep _ _ rfl (by first | decide | assumption | exact wi_ne (by assumption) | exact wi_ne' (by assumption) | omega) _).mono ?_; rintro e w' ⟨rfl, rfl⟩))
                go_roundg kj9
                case measure => have := HK1.out; have := HJ9.out; omega
                case rel => exact ⟨(wrap64 (x6_1 + 1)), (y216), (.slice Ao33 y216.length co33), (by first | rfl | (simp; done) | (simp [*]; done)), H', ⟨by have := HK1.out; have := HJ9.out; omega⟩, ⟨by (with_reducible repeat (first | apply Kd.R_alloc | apply Kd.R_drewN | apply Kd.R_drew)); exact Kd.R_mono (Kd.R_far (p := ⟨gb206, 1, none⟩) (Kd.R_types HO_207000.out BK206.out (by decide)) (fun _ hk => hk.2) (.slice Ao33 y216.length co33)) (fun _ hk => trivial)⟩, ⟨by (with_reducible repeat (first | apply Kd.R_alloc | apply Kd.R_drewN | apply Kd.R_drew)); exact Kd.R_mono (Kd.R_far (p := ⟨gb206, 1, none⟩) (Kd.R_types HO218.out BK206.out (by decide)) (fun _ hk => hk.2) (.slice Ao33 y216.length co33)) (fun _ hk => trivial)⟩, ⟨by (with_reducible repeat (first | refine blk_drewN ?_ _ | refine blk_drew ?_ | refine blk_alloc ?_ _)); refine blk_far ?_ NB202_206.out _; (with_reducible repeat (first | refine blk_drewN ?_ _ | refine blk_drew ?_ | refine blk_alloc ?_ _)); exact BK202.out⟩, ⟨by (with_reducible repeat (first | refine blk_drewN ?_ _ | refine blk_drew ?_ | refine blk_alloc ?_ _)); refine blk_put (cs := #[.slice Ao6 t203.length co6, .slice Ao22 x207001_1.length co22]) ?_ 1 _ rfl; (with_reducible repeat (first | refine blk_drewN ?_ _ | refine blk_drew ?_ | refine blk_alloc ?_ _)); exact BK206.out⟩, ⟨by repeat (first | (with_reducible first | exact HB.out | apply below_alloc | apply pw_below_drewN | apply below_drew1 | refine below_set ?_ GE202.out | refine below_set ?_ GE206.out) | exact HB.out)⟩⟩
              intro hJ5_6_8_16
              refine join_ (σ := Value × Value × Addr) 6 #[true, true, true, true, true, true, true, true, true, true, true, true, true, true, true, true, false, false, false, false, false, false] (fun s_ => [(31, s_.1), (32, .string (strOfNums y208)), (34, s_.2.1), (33, .string ((⟨#[116]⟩ : ByteArray) ++ (strOfNums y208))), (40, .int .i64 ji18), (41, .pointer (some (s_.2.2.add ((ji18)).toNat)))]) (fun s_ w' => (w'.cell? ⟨gb206, 0, none⟩ = some (.slice Ao6 t203.length co6) ∧ w'.cell? ⟨gb206, 1, none⟩ = some (.slice Ao22 x207001_1.length co22) ∧ w'.cell? (ad207.add (x6_1).toNat) = some (.int .i64 (rd l1 x6_1))) ∧ (Kd.R (Kd.int .u8) 5 w' w.heap.size (fun _ => True) s_.1 y208) ∧ (Kd.R Kd.string 9 w' w.heap.size (fun _ => True) s_.2.1 y211) ∧ (Kd.R k32 32 w' w.heap.size (fun _ => True) (.slice Ao6 t203.length co6) t203) ∧ (Kd.R k35 35 w' w.heap.size (fun _ => True) (.slice Ao22 x207001_1.length co22) x207001_1) ∧ (∃ c_, (s_.2.1 : Value) = .slice (some s_.2.2) y211.length c_) ∧ (w'.heap[gb202]? = some (.cells #[.slice none 0 0, .slice none 0 0] 25 (0, 0))) ∧ (w'.heap[gb206]? = some (.cells #[.slice Ao6 t203.length co6, .slice Ao22 x207001_1.length co22] 25 (0, 0))) ∧ (Below w.heap.size w w')) ?_ ?_
              rotate_left
              · intro hJ5_6_8
                refine join_ (σ := Value × Value × Addr) 7 #[true, true, true, true, true, true, false, false, true, true, true, true, true, true, true, true, true, false, false, false, false, false] (fun s_ => [(31, s_.1), (34, s_.2.1), (42, .string (rdOf ByteArray.empty y211 (ji18))), (40, .int .i64 ji18), (41, .pointer (some (s_.2.2.add ((ji18)).toNat)))]) (fun s_ w' => (w'.cell? ⟨gb206, 0, none⟩ = some (.slice Ao6 t203.length co6) ∧ w'.cell? ⟨gb206, 1, none⟩ = some (.slice Ao22 x207001_1.length co22) ∧ w'.cell? (ad207.add (x6_1).toNat) = some (.int .i64 (rd l1 x6_1))) ∧ (Kd.R (Kd.int .u8) 5 w' w.heap.size (fun _ => True) s_.1 y208) ∧ (Kd.R Kd.string 9 w' w.heap.size (fun _ => True) s_.2.1 y211) ∧ (Kd.R k32 32 w' w.heap.size (fun _ => True) (.slice Ao6 t203.length co6) t203) ∧ (Kd.R k35 35 w' w.heap.size (fun _ => True) (.slice Ao22 x207001_1.length co22) x207001_1) ∧ (∃ c_, (s_.2.1 : Value) = .slice (some s_.2.2) y211.length c_) ∧ (w'.heap[gb202]? = some (.cells #[.slice none 0 0, .slice none 0 0] 25 (0, 0))) ∧ (w'.heap[gb206]? = some (.cells #[.slice Ao6 t203.length co6, .slice Ao22 x207001_1.length co22] 25 (0, 0))) ∧ (Below w.heap.size w w')) ?_ ?_
                rotate_left
                · intro hJ5_8_16
                  refine join_ (σ := Value) 9 #[true, true, true, true, true, true, true, true, false, true, true, true, true, true, false, false, false, false, false, false, false, false] (fun s_ => [(31, s_), (32, .string (strOfNums y208)), (33, .string ((⟨#[116]⟩ : ByteArray) ++ (strOfNums y208)))]) (fun s_ w' => (w'.cell? ⟨gb206, 0, none⟩ = some (.slice Ao6 t203.length co6) ∧ w'.cell? ⟨gb206, 1, none⟩ = some (.slice Ao22 x207001_1.length co22) ∧ w'.cell? (ad207.add (x6_1).toNat) = some (.int .i64 (rd l1 x6_1))) ∧ (Kd.R (Kd.int .u8) 5 w' w.heap.size (fun _ => True) s_ y208) ∧ (Kd.R k32 32 w' w.heap.size (fun _ => True) (.slice Ao6 t203.length co6) t203) ∧ (Kd.R k35 35 w' w.heap.size (fun _ => True) (.slice Ao22 x207001_1.length co22) x207001_1) ∧ (w'.heap[gb202]? = some (.cells #[.slice none 0 0, .slice none 0 0] 25 (0, 0))) ∧ (w'.heap[gb206]? = some (.cells #[.slice Ao6 t203.length co6, .slice Ao22 x207001_1.length co22] 25 (0, 0))) ∧ (Below w.heap.size w w')) ?_ ?_
                  rotate_left
                  · intro hJ5_6
                    refine join_ (σ := Value × Value × Addr) 8 #[true, true, true, true, true, true, false, false, true, true, true, true, true, true, true, true, false, false, false, false, false, false] (fun s_ => [(31, s_.1), (34, s_.2.1), (40, .int .i64 ji18), (41, .pointer (some (s_.2.2.add ((ji18)).toNat)))]) (fun s_ w' => (w'.cell? ⟨gb206, 0, none⟩ = some (.slice Ao6 t203.length co6) ∧ w'.cell? ⟨gb206, 1, none⟩ = some (.slice Ao22 x207001_1.length co22) ∧ w'.cell? (ad207.add (x6_1).toNat) = some (.int .i64 (rd l1 x6_1))) ∧ (Kd.R (Kd.int .u8) 5 w' w.heap.size (fun _ => True) s_.1 y208) ∧ (Kd.R Kd.string 9 w' w.heap.size (fun _ => True) s_.2.1 y211) ∧ (Kd.R k32 32 w' w.heap.size (fun _ => True) (.slice Ao6 t203.length co6) t203) ∧ (Kd.R k35 35 w' w.heap.size (fun _ => True) (.slice Ao22 x207001_1.length co22) x207001_1) ∧ (∃ c_, (s_.2.1 : Value) = .slice (some s_.2.2) y211.length c_) ∧ (w'.heap[gb202]? = some (.cells #[.slice none 0 0, .slice none 0 0] 25 (0, 0))) ∧ (w'.heap[gb206]? = some (.cells #[.slice Ao6 t203.length co6, .slice Ao22 x207001_1.length co22] 25 (0, 0))) ∧ (Below w.heap.size w w')) ?_ ?_
                    rotate_left
                    · intro hJ5_8
                      refine join_ (σ := Value × Addr) 8 #[true, true, true, true, true, false, false, false, true, true, true, true, true, true, true, true, true, false, false, false, false, false] (fun s_ => [(34, s_.1), (42, .string (rdOf ByteArray.empty y211 (ji18))), (40, .int .i64 ji18), (41, .pointer (some (s_.2.add ((ji18)).toNat)))]) (fun s_ w' => (w'.cell? ⟨gb206, 0, none⟩ = some (.slice Ao6 t203.length co6) ∧ w'.cell? ⟨gb206, 1, none⟩ = some (.slice Ao22 x207001_1.length co22) ∧ w'.cell? (ad207.add (x6_1).toNat) = some (.int .i64 (rd l1 x6_1))) ∧ (Kd.R Kd.string 9 w' w.heap.size (fun _ => True) s_.1 y211) ∧ (Kd.R k32 32 w' w.heap.size (fun _ => True) (.slice Ao6 t203.length co6) t203) ∧ (Kd.R k35 35 w' w.heap.size (fun _ => True) (.slice Ao22 x207001_1.length co22) x207001_1) ∧ (∃ c_, (s_.1 : Value) = .slice (some s_.2) y211.length c_) ∧ (w'.heap[gb202]? = some (.cells #[.slice none 0 0, .slice none 0 0] 25 (0, 0))) ∧ (w'.heap[gb206]? = some (.cells #[.slice Ao6 t203.length co6, .slice Ao22 x207001_1.length co22] 25 (0, 0))) ∧ (Below w.heap.size w w')) ?_ ?_
                      rotate_left
                      · intro hJ8_16
                        refine join_ (σ := Value) 11 #[true, true, true, true, true, true, false, false, false, true, true, true, true, true, false, false, false, false, false, false, false, false] (fun s_ => [(31, s_)]) (fun s_ w' => (w'.cell? ⟨gb206, 0, none⟩ = some (.slice Ao6 t203.length co6) ∧ w'.cell? ⟨gb206, 1, none⟩ = some (.slice Ao22 x207001_1.length co22) ∧ w'.cell? (ad207.add (x6_1).toNat) = some (.int .i64 (rd l1 x6_1))) ∧ (Kd.R (Kd.int .u8) 5 w' w.heap.size (fun _ => True) s_ y208) ∧ (Kd.R k32 32 w' w.heap.size (fun _ => True) (.slice Ao6 t203.length co6) t203) ∧ (Kd.R k35 35 w' w.heap.size (fun _ => True) (.slice Ao22 x207001_1.length co22) x207001_1) ∧ (w'.heap[gb202]? = some (.cells #[.slice none 0 0, .slice none 0 0] 25 (0, 0))) ∧ (w'.heap[gb206]? = some (.cells #[.slice Ao6 t203.length co6, .slice Ao22 x207001_1.length co22] 25 (0, 0))) ∧ (Below w.heap.size w w')) ?_ ?_
                        rotate_left
                        · intro hJ5
                          refine join_ (σ := Value × Addr) 9 #[true, true, true, true, true, false, false, false, true, true, true, true, true, true, true, true, false, false, false, false, false, false] (fun s_ => [(34, s_.1), (40, .int .i64 ji18), (41, .pointer (some (s_.2.add ((ji18)).toNat)))]) (fun s_ w' => (w'.cell? ⟨gb206, 0, none⟩ = some (.slice Ao6 t203.length co6) ∧ w'.cell? ⟨gb206, 1, none⟩ = some (.slice Ao22 x207001_1.length co22) ∧ w'.cell? (ad207.add (x6_1).toNat) = some (.int .i64 (rd l1 x6_1))) ∧ (Kd.R Kd.string 9 w' w.heap.size (fun _ => True) s_.1 y211) ∧ (Kd.R k32 32 w' w.heap.size (fun _ => True) (.slice Ao6 t203.length co6) t203) ∧ (Kd.R k35 35 w' w.heap.size (fun _ => True) (.slice Ao22 x207001_1.length co22) x207001_1) ∧ (∃ c_, (s_.1 : Value) = .slice (some s_.2) y211.length c_) ∧ (w'.heap[gb202]? = some (.cells #[.slice none 0 0, .slice none 0 0] 25 (0, 0))) ∧ (w'.heap[gb206]? = some (.cells #[.slice Ao6 t203.length co6, .slice Ao22 x207001_1.length co22] 25 (0, 0))) ∧ (Below w.heap.size w w')) ?_ ?_
                          rotate_left
                          · intro hJ8
                            refine two_ (i := 5) (j := 8) (Ni := some 31) (Nj := some 34) #[true, true, true, true, true, true, false, false, false, true, true, true, true, true, false, false, false, false, false, false, false, false] #[true, true, true, true, true, false, false, false, true, true, true, true, true, true, false, false, false, false, false, false, false, false] rfl rfl rfl rfl (two_of HT_.out (by kernel_rfl)) (by decide) (by decide) (fun K hK => ?_) (fun K hK => ?_)
                            · skip
                              refine Kd.R_lit_step (Kd.int .u8) _ 5 ?hg (N := 31) ?hd (xs := ([(wrap64 (48 + x6_1)) % 256] : List Int)) (inner := [.int .u8 ((wrap64 (48 + x6_1)) % 256)]) (ok := fun _ => True) (okp := fun _ => True) ?hr ?hp (fun _ hk => hk) trivial (Below.refl _ _) (Nat.le_refl _) (by simp) ?_; (case hd => rfl); (case hg => rfl); (case hr => first | (go_simp; done) | (go_simp; rfl)); (case hp => exact (Reps.one (show Kd.M (Kd.int .u8) _ _ _ ((wrap64 (48 + x6_1)) % 256) [.int .u8 ((wrap64 (48 + x6_1)) % 256)] from rfl) (Reps.none _ _)))
                              intro v209 w24 ho25 hb hg_ hnew_
                              clear hg_ hnew_
                              (first | rw [← Ny208.out] at ho25 | (simp only [Int.reduceToNat] at ho25; rw [← Ny208.out] at ho25))
                              have HO210 := Aside0.mk (Kd.R_lower ho25 (below_size (by repeat (first | (with_reducible first | exact HB.out | apply below_alloc | apply pw_below_drewN | apply below_drew1 | refine below_set ?_ GE202.out | refine below_set ?_ GE206.out) | exact HB.out))))
                              replace HO_207000 := Aside0.mk (Kd.R_below (by (with_reducible repeat (first | apply Kd.R_alloc | apply Kd.R_drewN | apply Kd.R_drew)); exact HO_207000.out) hb)
                              replace HO_207001 := Aside0.mk (Kd.R_below (by (with_reducible repeat (first | apply Kd.R_alloc | apply Kd.R_drewN | apply Kd.R_drew)); exact HO_207001.out) hb)
                              replace BK202 := Aside0.mk (blk_below (g := gb202) (pk BK202) hb)
                              replace BK206 := Aside0.mk (blk_below (g := gb206) (pk BK206) hb)
                              replace HB := Aside0.mk (below_step (by repeat (first | (with_reducible first | exact HB.out | apply below_alloc | apply pw_below_drewN | apply below_drew1 | refine below_set ?_ GE202.out | refine below_set ?_ GE206.out) | exact HB.out)) hb)
                              clear hb ho25
                              refine hK.out _ _ ⟨bc BK206 0, bc BK206 1, ((HB.out.cell (World.block_lt_of_cell? w _ hw214_0)).trans hw214_0)⟩ (fun hHeld => ?_)
                              clear hK K
                              refine norm_ (a' := ?_) ?_ ?_
                              rotate_left
                              · show Act.put _ (some 31) _ = _
                                simp only [Act.put, List.setIfInBounds_toArray, List.set_cons_zero, List.set_cons_succ, i64_w, i32_w]
                                rfl
                              exact norm0_ (hJ5 (v209) _ ⟨hHeld, (by (with_reducible repeat (first | apply Kd.R_alloc | apply Kd.R_drewN | apply Kd.R_drew)); exact HO210.out), (by (with_reducible repeat (first | apply Kd.R_alloc | apply Kd.R_drewN | apply Kd.R_drew)); exact HO_207000.out), (by (with_reducible repeat (first | apply Kd.R_alloc | apply Kd.R_drewN | apply Kd.R_drew)); exact HO_207001.out), (pk BK202), (pk BK206), (by repeat (first | (with_reducible first | exact HB.out | apply below_alloc | apply pw_below_drewN | apply below_drew1 | refine below_set ?_ GE202.out | refine below_set ?_ GE206.out) | exact HB.out))⟩)
                            · skip
                              refine damperlaw5_Revs.step _ ?hg (N := 34) ?hd (xs := ([(⟨#[97, 112, 105, 45, 49]⟩ : ByteArray), (⟨#[97, 112, 105, 45, 50]⟩ : ByteArray), (⟨#[119, 101, 98, 45, 49]⟩ : ByteArray), (⟨#[119, 101, 98, 45, 49, 50]⟩ : ByteArray), (⟨#[119, 101, 98, 45, 50]⟩ : ByteArray), (⟨#[119, 101, 98, 45, 51]⟩ : ByteArray)] : List ByteArray)) (inner := [.string (⟨#[97, 112, 105, 45, 49]⟩ : ByteArray), .string (⟨#[97, 112, 105, 45, 50]⟩ : ByteArray), .string (⟨#[119, 101, 98, 45, 49]⟩ : ByteArray), .string (⟨#[119, 101, 98, 45, 49, 50]⟩ : ByteArray), .string (⟨#[119, 101, 98, 45, 50]⟩ : ByteArray), .string (⟨#[119, 101, 98, 45, 51]⟩ : ByteArray)]) (ok := fun _ => True) (okp := fun _ => True) ?hr ?hp (fun _ hk => hk) trivial (Below.refl _ _) (Nat.le_refl _) (by simp) ?_; (case hd => rfl); (case hg => rfl); (case hr => first | (go_simp; done) | (go_simp; rfl)); (case hp => exact (Reps.one (show Kd.M Kd.string _ _ _ (⟨#[97, 112, 105, 45, 49]⟩ : ByteArray) [.string (⟨#[97, 112, 105, 45, 49]⟩ : ByteArray)] from rfl) (Reps.one (show Kd.M Kd.string _ _ _ (⟨#[97, 112, 105, 45, 50]⟩ : ByteArray) [.string (⟨#[97, 112, 105, 45, 50]⟩ : ByteArray)] from rfl) (Reps.one (show Kd.M Kd.string _ _ _ (⟨#[119, 101, 98, 45, 49]⟩ : ByteArray) [.string (⟨#[119, 101, 98, 45, 49]⟩ : ByteArray)] from rfl) (Reps.one (show Kd.M Kd.string _ _ _ (⟨#[119, 101, 98, 45, 49, 50]⟩ : ByteArray) [.string (⟨#[119, 101, 98, 45, 49, 50]⟩ : ByteArray)] from rfl) (Reps.one (show Kd.M Kd.string _ _ _ (⟨#[119, 101, 98, 45, 50]⟩ : ByteArray) [.string (⟨#[119, 101, 98, 45, 50]⟩ : ByteArray)] from rfl) (Reps.one (show Kd.M Kd.string _ _ _ (⟨#[119, 101, 98, 45, 51]⟩ : ByteArray) [.string (⟨#[119, 101, 98, 45, 51]⟩ : ByteArray)] from rfl) (Reps.none _ _))))))))
                              intro v212 w24 ho25 hb hg_ hnew_
                              clear hg_ hnew_
                              (first | rw [← Ny211.out] at ho25 | (simp only [Int.reduceToNat] at ho25; rw [← Ny211.out] at ho25))
                              have HO213 := Aside0.mk (Kd.R_lower ho25 (below_size (by repeat (first | (with_reducible first | exact HB.out | apply below_alloc | apply pw_below_drewN | apply below_drew1 | refine below_set ?_ GE202.out | refine below_set ?_ GE206.out) | exact HB.out))))
                              replace HO_207000 := Aside0.mk (Kd.R_below (by (with_reducible repeat (first | apply Kd.R_alloc | apply Kd.R_drewN | apply Kd.R_drew)); exact HO_207000.out) hb)
                              replace HO_207001 := Aside0.mk (Kd.R_below (by (with_reducible repeat (first | apply Kd.R_alloc | apply Kd.R_drewN | apply Kd.R_drew)); exact HO_207001.out) hb)
                              replace BK202 := Aside0.mk (blk_below (g := gb202) (pk BK202) hb)
                              replace BK206 := Aside0.mk (blk_below (g := gb206) (pk BK206) hb)
                              replace HB := Aside0.mk (below_step (by repeat (first | (with_reducible first | exact HB.out | apply below_alloc | apply pw_below_drewN | apply below_drew1 | refine below_set ?_ GE202.out | refine below_set ?_ GE206.out) | exact HB.out)) hb)
                              clear hb ho25
                              obtain ⟨Ao26, co26, eo26⟩ := Kd.R_slice HO213.out
                              subst eo26
                              obtain ⟨ado26, fo26, _⟩ := Kd.at_string (Kd.R_reads' HO213.out).2.2 0 (by decide) (by rw [Ny211.out]; simp)
                              cases fo26
                              refine hK.out _ _ ⟨bc BK206 0, bc BK206 1, ((HB.out.cell (World.block_lt_of_cell? w _ hw214_0)).trans hw214_0)⟩ (fun hHeld => ?_)
                              clear hK K
                              refine norm_ (a' := ?_) ?_ ?_
                              rotate_left
                              · show Act.put _ (some 34) _ = _
                                simp only [Act.put, List.setIfInBounds_toArray, List.set_cons_zero, List.set_cons_succ, i64_w, i32_w]
                                rfl
                              refine callp_ (i := 14) (N := some 40) (a' := ?a1_) #[true, true, true, true, true, false, false, false, true, true, true, true, true, true, true, false, false, false, false, false, false, false] rfl rfl (by kernel_rfl) (fun _ _ _ h => h) (by rfl) Tryd.func14 (by kernel_rfl) rfl rfl (by (try simp only [List.map_toArray, List.map_cons, List.map_nil]); rfl) (damperlaw5_within.same _ _ (r := ?jj1_) ?hj1_ (by first | decide | assumption | exact wi_ne (by assumption) | exact wi_ne' (by assumption) | omega)) ?ha1_ ?h1_
                              (case hj1_ => (try simp only [i64_w, i32_w]); first | assumption | (go_simp; rfl))
                              (case ha1_ => simp only [Act.put, List.setIfInBounds_toArray, List.set_cons_zero, List.set_cons_succ, i64_w, i32_w]; rfl)
                              refine pure_ (i := 15) (N := some 41) (v := ?_) (a' := ?_) #[true, true, true, true, true, false, false, false, true, true, true, true, true, true, true, true, false, false, false, false, false, false] rfl rfl (any_of HT_.out (by kernel_rfl)) (fun _ _ _ h => h) (Or.inl ⟨by rfl, ?_⟩) ?_ ?_
                              rotate_left
                              · intro w'
                                go_simp
                                with_reducible rfl
                              rotate_left
                              · simp only [Act.put, List.setIfInBounds_toArray, List.set_cons_zero, List.set_cons_succ, i64_w, i32_w]
                                rfl
                              exact norm0_ (hJ8 (.slice (some ado26) y211.length co26, ado26) _ ⟨hHeld, (by (with_reducible repeat (first | apply Kd.R_alloc | apply Kd.R_drewN | apply Kd.R_drew)); exact HO213.out), (by (with_reducible repeat (first | apply Kd.R_alloc | apply Kd.R_drewN | apply Kd.R_drew)); exact HO_207000.out), (by (with_reducible repeat (first | apply Kd.R_alloc | apply Kd.R_drewN | apply Kd.R_drew)); exact HO_207001.out), ⟨_, rfl⟩, (pk BK202), (pk BK206), (by repeat (first | (with_reducible first | exact HB.out | apply below_alloc | apply pw_below_drewN | apply below_drew1 | refine below_set ?_ GE202.out | refine below_set ?_ GE206.out) | exact HB.out))⟩)
                          · skip
                            rintro ⟨v212, adz_v212⟩ w27 ⟨hS_, h0_, h1_, h2_, h3_, h4_, h5_, h6_⟩
                            have HO213 : Aside0 (Kd.R Kd.string 9 w27 w.heap.size (fun _ => True) v212 y211) := ⟨h0_⟩
                            have HA_HO213 : Aside0 (∃ c_, (v212 : Value) = .slice (some adz_v212) y211.length c_) := ⟨h3_⟩
                            replace HO_207000 : Aside0 (Kd.R k32 32 w27 w.heap.size (fun _ => True) (.slice Ao6 t203.length co6) t203) := ⟨h1_⟩
                            replace HO_207001 : Aside0 (Kd.R k35 35 w27 w.heap.size (fun _ => True) (.slice Ao22 x207001_1.length co22) x207001_1) := ⟨h2_⟩
                            replace BK202 := Aside0.mk h4_
                            replace BK206 := Aside0.mk h5_
                            replace HB : Aside0 (Below w.heap.size w w27) := ⟨h6_⟩
                            clear h0_ h1_ h2_ h3_ h4_ h5_ h6_
                            have hHeld := hS_
                            obtain ⟨co28, eo28⟩ := HA_HO213.out
                            clear HA_HO213
                            subst eo28
                            refine norm_ (a' := ?_) ?_ ?_
                            rotate_left
                            · simp only [putAll, Act.put, List.setIfInBounds_toArray, List.set_cons_zero, List.set_cons_succ]
                              rfl
                            refine two_ (i := 5) (j := 16) (Ni := some 31) (Nj := some 42) #[true, true, true, true, true, true, false, false, true, true, true, true, true, true, true, true, false, false, false, false, false, false] #[true, true, true, true, true, false, false, false, true, true, true, true, true, true, true, true, true, false, false, false, false, false] rfl rfl rfl rfl (two_of HT_.out (by kernel_rfl)) (by decide) (by decide) (fun K hK => ?_) (fun K hK => ?_)
                            · skip
                              refine Kd.R_lit_step (Kd.int .u8) _ 5 ?hg (N := 31) ?hd (xs := ([(wrap64 (48 + x6_1)) % 256] : List Int)) (inner := [.int .u8 ((wrap64 (48 + x6_1)) % 256)]) (ok := fun _ => True) (okp := fun _ => True) ?hr ?hp (fun _ hk => hk) trivial (Below.refl _ _) (Nat.le_refl _) (by simp) ?_; (case hd => rfl); (case hg => rfl); (case hr => first | (go_simp; done) | (go_simp; rfl)); (case hp => exact (Reps.one (show Kd.M (Kd.int .u8) _ _ _ ((wrap64 (48 + x6_1)) % 256) [.int .u8 ((wrap64 (48 + x6_1)) % 256)] from rfl) (Reps.none _ _)))
                              intro v209 w29 ho30 hb hg_ hnew_
                              clear hg_ hnew_
                              (first | rw [← Ny208.out] at ho30 | (simp only [Int.reduceToNat] at ho30; rw [← Ny208.out] at ho30))
                              have HO210 := Aside0.mk (Kd.R_lower ho30 (below_size (by repeat (first | (with_reducible first | exact HB.out | apply below_alloc | apply pw_below_drewN | apply below_drew1 | refine below_set ?_ GE202.out | refine below_set ?_ GE206.out) | exact HB.out))))
                              replace HO_207000 := Aside0.mk (Kd.R_below (by (with_reducible repeat (first | apply Kd.R_alloc | apply Kd.R_drewN | apply Kd.R_drew)); exact HO_207000.out) hb)
                              replace HO_207001 := Aside0.mk (Kd.R_below (by (with_reducible repeat (first | apply Kd.R_alloc | apply Kd.R_drewN | apply Kd.R_drew)); exact HO_207001.out) hb)
                              replace HO213 := Aside0.mk (Kd.R_below (by (with_reducible repeat (first | apply Kd.R_alloc | apply Kd.R_drewN | apply Kd.R_drew)); exact HO213.out) hb)
                              replace BK202 := Aside0.mk (blk_below (g := gb202) (pk BK202) hb)
                              replace BK206 := Aside0.mk (blk_below (g := gb206) (pk BK206) hb)
                              replace HB := Aside0.mk (below_step (by repeat (first | (with_reducible first | exact HB.out | apply below_alloc | apply pw_below_drewN | apply below_drew1 | refine below_set ?_ GE202.out | refine below_set ?_ GE206.out) | exact HB.out)) hb)
                              clear hb ho30
                              refine hK.out _ _ ⟨bc BK206 0, bc BK206 1, ((HB.out.cell (World.block_lt_of_cell? w _ hw214_0)).trans hw214_0)⟩ (fun hHeld => ?_)
                              clear hK K
                              refine norm_ (a' := ?_) ?_ ?_
                              rotate_left
                              · show Act.put _ (some 31) _ = _
                                simp only [Act.put, List.setIfInBounds_toArray, List.set_cons_zero, List.set_cons_succ, i64_w, i32_w]
                                rfl
                              exact norm0_ (hJ5_8 (v209, .slice (some adz_v212) y211.length co28, adz_v212) _ ⟨hHeld, (by (with_reducible repeat (first | apply Kd.R_alloc | apply Kd.R_drewN | apply Kd.R_drew)); exact HO210.out), (by (with_reducible repeat (first | apply Kd.R_alloc | apply Kd.R_drewN | apply Kd.R_drew)); exact HO213.out), (by (with_reducible repeat (first | apply Kd.R_alloc | apply Kd.R_drewN | apply Kd.R_drew)); exact HO_207000.out), (by (with_reducible repeat (first | apply Kd.R_alloc | apply Kd.R_drewN | apply Kd.R_drew)); exact HO_207001.out), ⟨_, rfl⟩, (pk BK202), (pk BK206), (by repeat (first | (with_reducible first | exact HB.out | apply below_alloc | apply pw_below_drewN | apply below_drew1 | refine below_set ?_ GE202.out | refine below_set ?_ GE206.out) | exact HB.out))⟩)
                            · skip
                              (have p215 : 0 ≤ ((ji18) : Int) := of_decide_eq_true (by first | (with_reducible assumption) | assumption); have q215 : (ji18) < (y211.length : Int) := of_decide_eq_true (by first | (with_reducible assumption) | assumption); obtain ⟨ad215, e215, hx215_0⟩ := Kd.at_string (Kd.R_reads' HO213.out).2.2 (ji18) p215 q215; obtain rfl : adz_v212 = ad215 := (by injection e215))
                              with_reducible_and_instances refine value_ (w1 := ?_) (v := ?_) ?hw_ ?hN_ ?_ ?_
                              (case hw_ => rfl)
                              (case hN_ => rfl)
                              rotate_left 2
                              · go_simp
                                constructor
                                · rfl
                                · rfl
                              clear hx215_0
                              refine hK.out _ _ ⟨bc BK206 0, bc BK206 1, ((HB.out.cell (World.block_lt_of_cell? w _ hw214_0)).trans hw214_0)⟩ (fun hHeld => ?_)
                              clear hK K
                              refine norm_ (a' := ?_) ?_ ?_
                              rotate_left
                              · show Act.put _ (some 42) _ = _
                                simp only [Act.put, List.setIfInBounds_toArray, List.set_cons_zero, List.set_cons_succ, i64_w, i32_w]
                                rfl
                              exact norm0_ (hJ8_16 (.slice (some adz_v212) y211.length co28, adz_v212) _ ⟨hHeld, (by (with_reducible repeat (first | apply Kd.R_alloc | apply Kd.R_drewN | apply Kd.R_drew)); exact HO213.out), (by (with_reducible repeat (first | apply Kd.R_alloc | apply Kd.R_drewN | apply Kd.R_drew)); exact HO_207000.out), (by (with_reducible repeat (first | apply Kd.R_alloc | apply Kd.R_drewN | apply Kd.R_drew)); exact HO_207001.out), ⟨_, rfl⟩, (pk BK202), (pk BK206), (by repeat (first | (with_reducible first | exact HB.out | apply below_alloc | apply pw_below_drewN | apply below_drew1 | refine below_set ?_ GE202.out | refine below_set ?_ GE206.out) | exact HB.out))⟩)
                        · skip
                          rintro v209 w26 ⟨hS_, h0_, h1_, h2_, h3_, h4_, h5_⟩
                          have HO210 : Aside0 (Kd.R (Kd.int .u8) 5 w26 w.heap.size (fun _ => True) v209 y208) := ⟨h0_⟩
                          replace HO_207000 : Aside0 (Kd.R k32 32 w26 w.heap.size (fun _ => True) (.slice Ao6 t203.length co6) t203) := ⟨h1_⟩
                          replace HO_207001 : Aside0 (Kd.R k35 35 w26 w.heap.size (fun _ => True) (.slice Ao22 x207001_1.length co22) x207001_1) := ⟨h2_⟩
                          replace BK202 := Aside0.mk h3_
                          replace BK206 := Aside0.mk h4_
                          replace HB : Aside0 (Below w.heap.size w w26) := ⟨h5_⟩
                          clear h0_ h1_ h2_ h3_ h4_ h5_
                          have hHeld := hS_
                          refine norm_ (a' := ?_) ?_ ?_
                          rotate_left
                          · simp only [putAll, Act.put, List.setIfInBounds_toArray, List.set_cons_zero, List.set_cons_succ]
                            rfl
                          refine two_ (i := 6) (j := 8) (Ni := some 32) (Nj := some 34) #[true, true, true, true, true, true, true, false, false, true, true, true, true, true, false, false, false, false, false, false, false, false] #[true, true, true, true, true, true, false, false, true, true, true, true, true, true, false, false, false, false, false, false, false, false] rfl rfl rfl rfl (two_of HT_.out (by kernel_rfl)) (by decide) (by decide) (fun K hK => ?_) (fun K hK => ?_)
                          · skip
                            have hcv27 := own_string (P := Tryd.prog) Tryd.underlying49 Tryd.underlying5 Tryd.underlying9 (Kd.own_of_R HO210.out)
                            with_reducible_and_instances refine value_ (w1 := ?_) (v := ?_) ?hw_ ?hN_ ?_ ?_
                            (case hw_ => rfl)
                            (case hN_ => rfl)
                            rotate_left 2
                            · go_simp
                              constructor
                              · rfl
                              · rfl
                            clear hcv27
                            refine hK.out _ _ ⟨bc BK206 0, bc BK206 1, ((HB.out.cell (World.block_lt_of_cell? w _ hw214_0)).trans hw214_0)⟩ (fun hHeld => ?_)
                            clear hK K
                            refine norm_ (a' := ?_) ?_ ?_
                            rotate_left
                            · show Act.put _ (some 32) _ = _
                              simp only [Act.put, List.setIfInBounds_toArray, List.set_cons_zero, List.set_cons_succ, i64_w, i32_w]
                              rfl
                            refine pure_ (i := 7) (N := some 33) (v := ?_) (a' := ?_) #[true, true, true, true, true, true, true, true, false, true, true, true, true, true, false, false, false, false, false, false, false, false] rfl rfl (any_of HT_.out (by kernel_rfl)) (fun _ _ _ h => h) (Or.inl ⟨by rfl, ?_⟩) ?_ ?_
                            rotate_left
                            · intro w'
                              go_simp
                              with_reducible rfl
                            rotate_left
                            · simp only [Act.put, List.setIfInBounds_toArray, List.set_cons_zero, List.set_cons_succ, i64_w, i32_w]
                              rfl
                            exact norm0_ (hJ5_6 (v209) _ ⟨hHeld, (by (with_reducible repeat (first | apply Kd.R_alloc | apply Kd.R_drewN | apply Kd.R_drew)); exact HO210.out), (by (with_reducible repeat (first | apply Kd.R_alloc | apply Kd.R_drewN | apply Kd.R_drew)); exact HO_207000.out), (by (with_reducible repeat (first | apply Kd.R_alloc | apply Kd.R_drewN | apply Kd.R_drew)); exact HO_207001.out), (pk BK202), (pk BK206), (by repeat (first | (with_reducible first | exact HB.out | apply below_alloc | apply pw_below_drewN | apply below_drew1 | refine below_set ?_ GE202.out | refine below_set ?_ GE206.out) | exact HB.out))⟩)
                          · skip
                            refine damperlaw5_Revs.step _ ?hg (N := 34) ?hd (xs := ([(⟨#[97, 112, 105, 45, 49]⟩ : ByteArray), (⟨#[97, 112, 105, 45, 50]⟩ : ByteArray), (⟨#[119, 101, 98, 45, 49]⟩ : ByteArray), (⟨#[119, 101, 98, 45, 49, 50]⟩ : ByteArray), (⟨#[119, 101, 98, 45, 50]⟩ : ByteArray), (⟨#[119, 101, 98, 45, 51]⟩ : ByteArray)] : List ByteArray)) (inner := [.string (⟨#[97, 112, 105, 45, 49]⟩ : ByteArray), .string (⟨#[97, 112, 105, 45, 50]⟩ : ByteArray), .string (⟨#[119, 101, 98, 45, 49]⟩ : ByteArray), .string (⟨#[119, 101, 98, 45, 49, 50]⟩ : ByteArray), .string (⟨#[119, 101, 98, 45, 50]⟩ : ByteArray), .string (⟨#[119, 101, 98, 45, 51]⟩ : ByteArray)]) (ok := fun _ => True) (okp := fun _ => True) ?hr ?hp (fun _ hk => hk) trivial (Below.refl _ _) (Nat.le_refl _) (by simp) ?_; (case hd => rfl); (case hg => rfl); (case hr => first | (go_simp; done) | (go_simp; rfl)); (case hp => exact (Reps.one (show Kd.M Kd.string _ _ _ (⟨#[97, 112, 105, 45, 49]⟩ : ByteArray) [.string (⟨#[97, 112, 105, 45, 49]⟩ : ByteArray)] from rfl) (Reps.one (show Kd.M Kd.string _ _ _ (⟨#[97, 112, 105, 45, 50]⟩ : ByteArray) [.string (⟨#[97, 112, 105, 45, 50]⟩ : ByteArray)] from rfl) (Reps.one (show Kd.M Kd.string _ _ _ (⟨#[119, 101, 98, 45, 49]⟩ : ByteArray) [.string (⟨#[119, 101, 98, 45, 49]⟩ : ByteArray)] from rfl) (Reps.one (show Kd.M Kd.string _ _ _ (⟨#[119, 101, 98, 45, 49, 50]⟩ : ByteArray) [.string (⟨#[119, 101, 98, 45, 49, 50]⟩ : ByteArray)] from rfl) (Reps.one (show Kd.M Kd.string _ _ _ (⟨#[119, 101, 98, 45, 50]⟩ : ByteArray) [.string (⟨#[119, 101, 98, 45, 50]⟩ : ByteArray)] from rfl) (Reps.one (show Kd.M Kd.string _ _ _ (⟨#[119, 101, 98, 45, 51]⟩ : ByteArray) [.string (⟨#[119, 101, 98, 45, 51]⟩ : ByteArray)] from rfl) (Reps.none _ _))))))))
                            intro v212 w27 ho28 hb hg_ hnew_
                            clear hg_ hnew_
                            (first | rw [← Ny211.out] at ho28 | (simp only [Int.reduceToNat] at ho28; rw [← Ny211.out] at ho28))
                            have HO213 := Aside0.mk (Kd.R_lower ho28 (below_size (by repeat (first | (with_reducible first | exact HB.out | apply below_alloc | apply pw_below_drewN | apply below_drew1 | refine below_set ?_ GE202.out | refine below_set ?_ GE206.out) | exact HB.out))))
                            replace HO_207000 := Aside0.mk (Kd.R_below (by (with_reducible repeat (first | apply Kd.R_alloc | apply Kd.R_drewN | apply Kd.R_drew)); exact HO_207000.out) hb)
                            replace HO_207001 := Aside0.mk (Kd.R_below (by (with_reducible repeat (first | apply Kd.R_alloc | apply Kd.R_drewN | apply Kd.R_drew)); exact HO_207001.out) hb)
                            replace HO210 := Aside0.mk (Kd.R_below (by (with_reducible repeat (first | apply Kd.R_alloc | apply Kd.R_drewN | apply Kd.R_drew)); exact HO210.out) hb)
                            replace BK202 := Aside0.mk (blk_below (g := gb202) (pk BK202) hb)
                            replace BK206 := Aside0.mk (blk_below (g := gb206) (pk BK206) hb)
                            replace HB := Aside0.mk (below_step (by repeat (first | (with_reducible first | exact HB.out | apply below_alloc | apply pw_below_drewN | apply below_drew1 | refine below_set ?_ GE202.out | refine below_set ?_ GE206.out) | exact HB.out)) hb)
                            clear hb ho28
                            obtain ⟨Ao29, co29, eo29⟩ := Kd.R_slice HO213.out
                            subst eo29
                            obtain ⟨ado29, fo29, _⟩ := Kd.at_string (Kd.R_reads' HO213.out).2.2 0 (by decide) (by rw [Ny211.out]; simp)
                            cases fo29
                            refine hK.out _ _ ⟨bc BK206 0, bc BK206 1, ((HB.out.cell (World.block_lt_of_cell? w _ hw214_0)).trans hw214_0)⟩ (fun hHeld => ?_)
                            clear hK K
                            refine norm_ (a' := ?_) ?_ ?_
                            rotate_left
                            · show Act.put _ (some 34) _ = _
                              simp only [Act.put, List.setIfInBounds_toArray, List.set_cons_zero, List.set_cons_succ, i64_w, i32_w]
                              rfl
                            refine callp_ (i := 14) (N := some 40) (a' := ?a2_) #[true, true, true, true, true, true, false, false, true, true, true, true, true, true, true, false, false, false, false, false, false, false] rfl rfl (by kernel_rfl) (fun _ _ _ h => h) (by rfl) Tryd.func14 (by kernel_rfl) rfl rfl (by (try simp only [List.map_toArray, List.map_cons, List.map_nil]); rfl) (damperlaw5_within.same _ _ (r := ?jj2_) ?hj2_ (by first | decide | assumption | exact wi_ne (by assumption) | exact wi_ne' (by assumption) | omega)) ?ha2_ ?h2_
                            (case hj2_ => (try simp only [i64_w, i32_w]); first | assumption | (go_simp; rfl))
                            (case ha2_ => simp only [Act.put, List.setIfInBounds_toArray, List.set_cons_zero, List.set_cons_succ, i64_w, i32_w]; rfl)
                            refine pure_ (i := 15) (N := some 41) (v := ?_) (a' := ?_) #[true, true, true, true, true, true, false, false, true, true, true, true, true, true, true, true, false, false, false, false, false, false] rfl rfl (any_of HT_.out (by kernel_rfl)) (fun _ _ _ h => h) (Or.inl ⟨by rfl, ?_⟩) ?_ ?_
                            rotate_left
                            · intro w'
                              go_simp
                              with_reducible rfl
                            rotate_left
                            · simp only [Act.put, List.setIfInBounds_toArray, List.set_cons_zero, List.set_cons_succ, i64_w, i32_w]
                              rfl
                            exact norm0_ (hJ5_8 (v209, .slice (some ado29) y211.length co29, ado29) _ ⟨hHeld, (by (with_reducible repeat (first | apply Kd.R_alloc | apply Kd.R_drewN | apply Kd.R_drew)); exact HO210.out), (by (with_reducible repeat (first | apply Kd.R_alloc | apply Kd.R_drewN | apply Kd.R_drew)); exact HO213.out), (by (with_reducible repeat (first | apply Kd.R_alloc | apply Kd.R_drewN | apply Kd.R_drew)); exact HO_207000.out), (by (with_reducible repeat (first | apply Kd.R_alloc | apply Kd.R_drewN | apply Kd.R_drew)); exact HO_207001.out), ⟨_, rfl⟩, (pk BK202), (pk BK206), (by repeat (first | (with_reducible first | exact HB.out | apply below_alloc | apply pw_below_drewN | apply below_drew1 | refine below_set ?_ GE202.out | refine below_set ?_ GE206.out) | exact HB.out))⟩)
                      · skip
                        rintro ⟨v212, adz_v212⟩ w27 ⟨hS_, h0_, h1_, h2_, h3_, h4_, h5_, h6_⟩
                        have HO213 : Aside0 (Kd.R Kd.string 9 w27 w.heap.size (fun _ => True) v212 y211) := ⟨h0_⟩
                        have HA_HO213 : Aside0 (∃ c_, (v212 : Value) = .slice (some adz_v212) y211.length c_) := ⟨h3_⟩
                        replace HO_207000 : Aside0 (Kd.R k32 32 w27 w.heap.size (fun _ => True) (.slice Ao6 t203.length co6) t203) := ⟨h1_⟩
                        replace HO_207001 : Aside0 (Kd.R k35 35 w27 w.heap.size (fun _ => True) (.slice Ao22 x207001_1.length co22) x207001_1) := ⟨h2_⟩
                        replace BK202 := Aside0.mk h4_
                        replace BK206 := Aside0.mk h5_
                        replace HB : Aside0 (Below w.heap.size w w27) := ⟨h6_⟩
                        clear h0_ h1_ h2_ h3_ h4_ h5_ h6_
                        have hHeld := hS_
                        obtain ⟨co28, eo28⟩ := HA_HO213.out
                        clear HA_HO213
                        subst eo28
                        refine norm_ (a' := ?_) ?_ ?_
                        rotate_left
                        · simp only [putAll, Act.put, List.setIfInBounds_toArray, List.set_cons_zero, List.set_cons_succ]
                          rfl
                        refine one_ (i := 5) (N := some 31) #[true, true, true, true, true, true, false, false, true, true, true, true, true, true, true, true, true, false, false, false, false, false] rfl rfl (one_of HT_.out (by kernel_rfl)) (by decide) (fun K hK => ?_)
                        refine Kd.R_lit_step (Kd.int .u8) _ 5 ?hg (N := 31) ?hd (xs := ([(wrap64 (48 + x6_1)) % 256] : List Int)) (inner := [.int .u8 ((wrap64 (48 + x6_1)) % 256)]) (ok := fun _ => True) (okp := fun _ => True) ?hr ?hp (fun _ hk => hk) trivial (Below.refl _ _) (Nat.le_refl _) (by simp) ?_; (case hd => rfl); (case hg => rfl); (case hr => first | (go_simp; done) | (go_simp; rfl)); (case hp => exact (Reps.one (show Kd.M (Kd.int .u8) _ _ _ ((wrap64 (48 + x6_1)) % 256) [.int .u8 ((wrap64 (48 + x6_1)) % 256)] from rfl) (Reps.none _ _)))
                        intro v209 w29 ho30 hb hg_ hnew_
                        clear hg_ hnew_
                        (first | rw [← Ny208.out] at ho30 | (simp only [Int.reduceToNat] at ho30; rw [← Ny208.out] at ho30))
                        have HO210 := Aside0.mk (Kd.R_lower ho30 (below_size (by repeat (first | (with_reducible first | exact HB.out | apply below_alloc | apply pw_below_drewN | apply below_drew1 | refine below_set ?_ GE202.out | refine below_set ?_ GE206.out) | exact HB.out))))
                        replace HO_207000 := Aside0.mk (Kd.R_below (by (with_reducible repeat (first | apply Kd.R_alloc | apply Kd.R_drewN | apply Kd.R_drew)); exact HO_207000.out) hb)
                        replace HO_207001 := Aside0.mk (Kd.R_below (by (with_reducible repeat (first | apply Kd.R_alloc | apply Kd.R_drewN | apply Kd.R_drew)); exact HO_207001.out) hb)
                        replace HO213 := Aside0.mk (Kd.R_below (by (with_reducible repeat (first | apply Kd.R_alloc | apply Kd.R_drewN | apply Kd.R_drew)); exact HO213.out) hb)
                        replace BK202 := Aside0.mk (blk_below (g := gb202) (pk BK202) hb)
                        replace BK206 := Aside0.mk (blk_below (g := gb206) (pk BK206) hb)
                        replace HB := Aside0.mk (below_step (by repeat (first | (with_reducible first | exact HB.out | apply below_alloc | apply pw_below_drewN | apply below_drew1 | refine below_set ?_ GE202.out | refine below_set ?_ GE206.out) | exact HB.out)) hb)
                        clear hb ho30
                        refine hK.out _ _ ⟨bc BK206 0, bc BK206 1, ((HB.out.cell (World.block_lt_of_cell? w _ hw214_0)).trans hw214_0)⟩ (fun hHeld => ?_)
                        clear hK K
                        refine norm_ (a' := ?_) ?_ ?_
                        rotate_left
                        · show Act.put _ (some 31) _ = _
                          simp only [Act.put, List.setIfInBounds_toArray, List.set_cons_zero, List.set_cons_succ, i64_w, i32_w]
                          rfl
                        exact norm0_ (hJ5_8_16 (v209, .slice (some adz_v212) y211.length co28, adz_v212) _ ⟨hHeld, (by (with_reducible repeat (first | apply Kd.R_alloc | apply Kd.R_drewN | apply Kd.R_drew)); exact HO210.out), (by (with_reducible repeat (first | apply Kd.R_alloc | apply Kd.R_drewN | apply Kd.R_drew)); exact HO213.out), (by (with_reducible repeat (first | apply Kd.R_alloc | apply Kd.R_drewN | apply Kd.R_drew)); exact HO_207000.out), (by (with_reducible repeat (first | apply Kd.R_alloc | apply Kd.R_drewN | apply Kd.R_drew)); exact HO_207001.out), ⟨_, rfl⟩, (pk BK202), (pk BK206), (by repeat (first | (with_reducible first | exact HB.out | apply below_alloc | apply pw_below_drewN | apply below_drew1 | refine below_set ?_ GE202.out | refine below_set ?_ GE206.out) | exact HB.out))⟩)
                    · skip
                      rintro ⟨v209, v212, adz_v212⟩ w29 ⟨hS_, h0_, h1_, h2_, h3_, h4_, h5_, h6_, h7_⟩
                      have HO210 : Aside0 (Kd.R (Kd.int .u8) 5 w29 w.heap.size (fun _ => True) v209 y208) := ⟨h0_⟩
                      have HO213 : Aside0 (Kd.R Kd.string 9 w29 w.heap.size (fun _ => True) v212 y211) := ⟨h1_⟩
                      have HA_HO213 : Aside0 (∃ c_, (v212 : Value) = .slice (some adz_v212) y211.length c_) := ⟨h4_⟩
                      replace HO_207000 : Aside0 (Kd.R k32 32 w29 w.heap.size (fun _ => True) (.slice Ao6 t203.length co6) t203) := ⟨h2_⟩
                      replace HO_207001 : Aside0 (Kd.R k35 35 w29 w.heap.size (fun _ => True) (.slice Ao22 x207001_1.length co22) x207001_1) := ⟨h3_⟩
                      replace BK202 := Aside0.mk h5_
                      replace BK206 := Aside0.mk h6_
                      replace HB : Aside0 (Below w.heap.size w w29) := ⟨h7_⟩
                      clear h0_ h1_ h2_ h3_ h4_ h5_ h6_ h7_
                      have hHeld := hS_
                      obtain ⟨co30, eo30⟩ := HA_HO213.out
                      clear HA_HO213
                      subst eo30
                      refine norm_ (a' := ?_) ?_ ?_
                      rotate_left
                      · simp only [putAll, Act.put, List.setIfInBounds_toArray, List.set_cons_zero, List.set_cons_succ]
                        rfl
                      refine two_ (i := 6) (j := 16) (Ni := some 32) (Nj := some 42) #[true, true, true, true, true, true, true, false, true, true, true, true, true, true, true, true, false, false, false, false, false, false] #[true, true, true, true, true, true, false, false, true, true, true, true, true, true, true, true, true, false, false, false, false, false] rfl rfl rfl rfl (two_of HT_.out (by kernel_rfl)) (by decide) (by decide) (fun K hK => ?_) (fun K hK => ?_)
                      · skip
                        have hcv31 := own_string (P := Tryd.prog) Tryd.underlying49 Tryd.underlying5 Tryd.underlying9 (Kd.own_of_R HO210.out)
                        with_reducible_and_instances refine value_ (w1 := ?_) (v := ?_) ?hw_ ?hN_ ?_ ?_
                        (case hw_ => rfl)
                        (case hN_ => rfl)
                        rotate_left 2
                        · go_simp
                          constructor
                          · rfl
                          · rfl
                        clear hcv31
                        refine hK.out _ _ ⟨bc BK206 0, bc BK206 1, ((HB.out.cell (World.block_lt_of_cell? w _ hw214_0)).trans hw214_0)⟩ (fun hHeld => ?_)
                        clear hK K
                        refine norm_ (a' := ?_) ?_ ?_
                        rotate_left
                        · show Act.put _ (some 32) _ = _
                          simp only [Act.put, List.setIfInBounds_toArray, List.set_cons_zero, List.set_cons_succ, i64_w, i32_w]
                          rfl
                        refine pure_ (i := 7) (N := some 33) (v := ?_) (a' := ?_) #[true, true, true, true, true, true, true, true, true, true, true, true, true, true, true, true, false, false, false, false, false, false] rfl rfl (any_of HT_.out (by kernel_rfl)) (fun _ _ _ h => h) (Or.inl ⟨by rfl, ?_⟩) ?_ ?_
                        rotate_left
                        · intro w'
                          go_simp
                          with_reducible rfl
                        rotate_left
                        · simp only [Act.put, List.setIfInBounds_toArray, List.set_cons_zero, List.set_cons_succ, i64_w, i32_w]
                          rfl
                        exact norm0_ (hJ5_6_8 (v209, .slice (some adz_v212) y211.length co30, adz_v212) _ ⟨hHeld, (by (with_reducible repeat (first | apply Kd.R_alloc | apply Kd.R_drewN | apply Kd.R_drew)); exact HO210.out), (by (with_reducible repeat (first | apply Kd.R_alloc | apply Kd.R_drewN | apply Kd.R_drew)); exact HO213.out), (by (with_reducible repeat (first | apply Kd.R_alloc | apply Kd.R_drewN | apply Kd.R_drew)); exact HO_207000.out), (by (with_reducible repeat (first | apply Kd.R_alloc | apply Kd.R_drewN | apply Kd.R_drew)); exact HO_207001.out), ⟨_, rfl⟩, (pk BK202), (pk BK206), (by repeat (first | (with_reducible first | exact HB.out | apply below_alloc | apply pw_below_drewN | apply below_drew1 | refine below_set ?_ GE202.out | refine below_set ?_ GE206.out) | exact HB.out))⟩)
                      · skip
                        (have p215 : 0 ≤ ((ji18) : Int) := of_decide_eq_true (by first | (with_reducible assumption) | assumption); have q215 : (ji18) < (y211.length : Int) := of_decide_eq_true (by first | (with_reducible assumption) | assumption); obtain ⟨ad215, e215, hx215_0⟩ := Kd.at_string (Kd.R_reads' HO213.out).2.2 (ji18) p215 q215; obtain rfl : adz_v212 = ad215 := (by injection e215))
                        with_reducible_and_instances refine value_ (w1 := ?_) (v := ?_) ?hw_ ?hN_ ?_ ?_
                        (case hw_ => rfl)
                        (case hN_ => rfl)
                        rotate_left 2
                        · go_simp
                          constructor
                          · rfl
                          · rfl
                        clear hx215_0
                        refine hK.out _ _ ⟨bc BK206 0, bc BK206 1, ((HB.out.cell (World.block_lt_of_cell? w _ hw214_0)).trans hw214_0)⟩ (fun hHeld => ?_)
                        clear hK K
                        refine norm_ (a' := ?_) ?_ ?_
                        rotate_left
                        · show Act.put _ (some 42) _ = _
                          simp only [Act.put, List.setIfInBounds_toArray, List.set_cons_zero, List.set_cons_succ, i64_w, i32_w]
                          rfl
                        exact norm0_ (hJ5_8_16 (v209, .slice (some adz_v212) y211.length co30, adz_v212) _ ⟨hHeld, (by (with_reducible repeat (first | apply Kd.R_alloc | apply Kd.R_drewN | apply Kd.R_drew)); exact HO210.out), (by (with_reducible repeat (first | apply Kd.R_alloc | apply Kd.R_drewN | apply Kd.R_drew)); exact HO213.out), (by (with_reducible repeat (first | apply Kd.R_alloc | apply Kd.R_drewN | apply Kd.R_drew)); exact HO_207000.out), (by (with_reducible repeat (first | apply Kd.R_alloc | apply Kd.R_drewN | apply Kd.R_drew)); exact HO_207001.out), ⟨_, rfl⟩, (pk BK202), (pk BK206), (by repeat (first | (with_reducible first | exact HB.out | apply below_alloc | apply pw_below_drewN | apply below_drew1 | refine below_set ?_ GE202.out | refine below_set ?_ GE206.out) | exact HB.out))⟩)
                  · skip
                    rintro v209 w27 ⟨hS_, h0_, h1_, h2_, h3_, h4_, h5_⟩
                    have HO210 : Aside0 (Kd.R (Kd.int .u8) 5 w27 w.heap.size (fun _ => True) v209 y208) := ⟨h0_⟩
                    replace HO_207000 : Aside0 (Kd.R k32 32 w27 w.heap.size (fun _ => True) (.slice Ao6 t203.length co6) t203) := ⟨h1_⟩
                    replace HO_207001 : Aside0 (Kd.R k35 35 w27 w.heap.size (fun _ => True) (.slice Ao22 x207001_1.length co22) x207001_1) := ⟨h2_⟩
                    replace BK202 := Aside0.mk h3_
                    replace BK206 := Aside0.mk h4_
                    replace HB : Aside0 (Below w.heap.size w w27) := ⟨h5_⟩
                    clear h0_ h1_ h2_ h3_ h4_ h5_
                    have hHeld := hS_
                    refine norm_ (a' := ?_) ?_ ?_
                    rotate_left
                    · simp only [putAll, Act.put, List.setIfInBounds_toArray, List.set_cons_zero, List.set_cons_succ]
                      rfl
                    refine one_ (i := 8) (N := some 34) #[true, true, true, true, true, true, true, true, true, true, true, true, true, true, false, false, false, false, false, false, false, false] rfl rfl (one_of HT_.out (by kernel_rfl)) (by decide) (fun K hK => ?_)
                    refine damperlaw5_Revs.step _ ?hg (N := 34) ?hd (xs := ([(⟨#[97, 112, 105, 45, 49]⟩ : ByteArray), (⟨#[97, 112, 105, 45, 50]⟩ : ByteArray), (⟨#[119, 101, 98, 45, 49]⟩ : ByteArray), (⟨#[119, 101, 98, 45, 49, 50]⟩ : ByteArray), (⟨#[119, 101, 98, 45, 50]⟩ : ByteArray), (⟨#[119, 101, 98, 45, 51]⟩ : ByteArray)] : List ByteArray)) (inner := [.string (⟨#[97, 112, 105, 45, 49]⟩ : ByteArray), .string (⟨#[97, 112, 105, 45, 50]⟩ : ByteArray), .string (⟨#[119, 101, 98, 45, 49]⟩ : ByteArray), .string (⟨#[119, 101, 98, 45, 49, 50]⟩ : ByteArray), .string (⟨#[119, 101, 98, 45, 50]⟩ : ByteArray), .string (⟨#[119, 101, 98, 45, 51]⟩ : ByteArray)]) (ok := fun _ => True) (okp := fun _ => True) ?hr ?hp (fun _ hk => hk) trivial (Below.refl _ _) (Nat.le_refl _) (by simp) ?_; (case hd => rfl); (case hg => rfl); (case hr => first | (go_simp; done) | (go_simp; rfl)); (case hp => exact (Reps.one (show Kd.M Kd.string _ _ _ (⟨#[97, 112, 105, 45, 49]⟩ : ByteArray) [.string (⟨#[97, 112, 105, 45, 49]⟩ : ByteArray)] from rfl) (Reps.one (show Kd.M Kd.string _ _ _ (⟨#[97, 112, 105, 45, 50]⟩ : ByteArray) [.string (⟨#[97, 112, 105, 45, 50]⟩ : ByteArray)] from rfl) (Reps.one (show Kd.M Kd.string _ _ _ (⟨#[119, 101, 98, 45, 49]⟩ : ByteArray) [.string (⟨#[119, 101, 98, 45, 49]⟩ : ByteArray)] from rfl) (Reps.one (show Kd.M Kd.string _ _ _ (⟨#[119, 101, 98, 45, 49, 50]⟩ : ByteArray) [.string (⟨#[119, 101, 98, 45, 49, 50]⟩ : ByteArray)] from rfl) (Reps.one (show Kd.M Kd.string _ _ _ (⟨#[119, 101, 98, 45, 50]⟩ : ByteArray) [.string (⟨#[119, 101, 98, 45, 50]⟩ : ByteArray)] from rfl) (Reps.one (show Kd.M Kd.string _ _ _ (⟨#[119, 101, 98, 45, 51]⟩ : ByteArray) [.string (⟨#[119, 101, 98, 45, 51]⟩ : ByteArray)] from rfl) (Reps.none _ _))))))))
                    intro v212 w28 ho29 hb hg_ hnew_
                    clear hg_ hnew_
                    (first | rw [← Ny211.out] at ho29 | (simp only [Int.reduceToNat] at ho29; rw [← Ny211.out] at ho29))
                    have HO213 := Aside0.mk (Kd.R_lower ho29 (below_size (by repeat (first | (with_reducible first | exact HB.out | apply below_alloc | apply pw_below_drewN | apply below_drew1 | refine below_set ?_ GE202.out | refine below_set ?_ GE206.out) | exact HB.out))))
                    replace HO_207000 := Aside0.mk (Kd.R_below (by (with_reducible repeat (first | apply Kd.R_alloc | apply Kd.R_drewN | apply Kd.R_drew)); exact HO_207000.out) hb)
                    replace HO_207001 := Aside0.mk (Kd.R_below (by (with_reducible repeat (first | apply Kd.R_alloc | apply Kd.R_drewN | apply Kd.R_drew)); exact HO_207001.out) hb)
                    replace HO210 := Aside0.mk (Kd.R_below (by (with_reducible repeat (first | apply Kd.R_alloc | apply Kd.R_drewN | apply Kd.R_drew)); exact HO210.out) hb)
                    replace BK202 := Aside0.mk (blk_below (g := gb202) (pk BK202) hb)
                    replace BK206 := Aside0.mk (blk_below (g := gb206) (pk BK206) hb)
                    replace HB := Aside0.mk (below_step (by repeat (first | (with_reducible first | exact HB.out | apply below_alloc | apply pw_below_drewN | apply below_drew1 | refine below_set ?_ GE202.out | refine below_set ?_ GE206.out) | exact HB.out)) hb)
                    clear hb ho29
                    obtain ⟨Ao30, co30, eo30⟩ := Kd.R_slice HO213.out
                    subst eo30
                    obtain ⟨ado30, fo30, _⟩ := Kd.at_string (Kd.R_reads' HO213.out).2.2 0 (by decide) (by rw [Ny211.out]; simp)
                    cases fo30
                    refine hK.out _ _ ⟨bc BK206 0, bc BK206 1, ((HB.out.cell (World.block_lt_of_cell? w _ hw214_0)).trans hw214_0)⟩ (fun hHeld => ?_)
                    clear hK K
                    refine norm_ (a' := ?_) ?_ ?_
                    rotate_left
                    · show Act.put _ (some 34) _ = _
                      simp only [Act.put, List.setIfInBounds_toArray, List.set_cons_zero, List.set_cons_succ, i64_w, i32_w]
                      rfl
                    refine callp_ (i := 14) (N := some 40) (a' := ?a3_) #[true, true, true, true, true, true, true, true, true, true, true, true, true, true, true, false, false, false, false, false, false, false] rfl rfl (by kernel_rfl) (fun _ _ _ h => h) (by rfl) Tryd.func14 (by kernel_rfl) rfl rfl (by (try simp only [List.map_toArray, List.map_cons, List.map_nil]); rfl) (damperlaw5_within.same _ _ (r := ?jj3_) ?hj3_ (by first | decide | assumption | exact wi_ne (by assumption) | exact wi_ne' (by assumption) | omega)) ?ha3_ ?h3_
                    (case hj3_ => (try simp only [i64_w, i32_w]); first | assumption | (go_simp; rfl))
                    (case ha3_ => simp only [Act.put, List.setIfInBounds_toArray, List.set_cons_zero, List.set_cons_succ, i64_w, i32_w]; rfl)
                    refine pure_ (i := 15) (N := some 41) (v := ?_) (a' := ?_) #[true, true, true, true, true, true, true, true, true, true, true, true, true, true, true, true, false, false, false, false, false, false] rfl rfl (any_of HT_.out (by kernel_rfl)) (fun _ _ _ h => h) (Or.inl ⟨by rfl, ?_⟩) ?_ ?_
                    rotate_left
                    · intro w'
                      go_simp
                      with_reducible rfl
                    rotate_left
                    · simp only [Act.put, List.setIfInBounds_toArray, List.set_cons_zero, List.set_cons_succ, i64_w, i32_w]
                      rfl
                    exact norm0_ (hJ5_6_8 (v209, .slice (some ado30) y211.length co30, ado30) _ ⟨hHeld, (by (with_reducible repeat (first | apply Kd.R_alloc | apply Kd.R_drewN | apply Kd.R_drew)); exact HO210.out), (by (with_reducible repeat (first | apply Kd.R_alloc | apply Kd.R_drewN | apply Kd.R_drew)); exact HO213.out), (by (with_reducible repeat (first | apply Kd.R_alloc | apply Kd.R_drewN | apply Kd.R_drew)); exact HO_207000.out), (by (with_reducible repeat (first | apply Kd.R_alloc | apply Kd.R_drewN | apply Kd.R_drew)); exact HO_207001.out), ⟨_, rfl⟩, (pk BK202), (pk BK206), (by repeat (first | (with_reducible first | exact HB.out | apply below_alloc | apply pw_below_drewN | apply below_drew1 | refine below_set ?_ GE202.out | refine below_set ?_ GE206.out) | exact HB.out))⟩)
                · skip
                  rintro ⟨v209, v212, adz_v212⟩ w29 ⟨hS_, h0_, h1_, h2_, h3_, h4_, h5_, h6_, h7_⟩
                  have HO210 : Aside0 (Kd.R (Kd.int .u8) 5 w29 w.heap.size (fun _ => True) v209 y208) := ⟨h0_⟩
                  have HO213 : Aside0 (Kd.R Kd.string 9 w29 w.heap.size (fun _ => True) v212 y211) := ⟨h1_⟩
                  have HA_HO213 : Aside0 (∃ c_, (v212 : Value) = .slice (some adz_v212) y211.length c_) := ⟨h4_⟩
                  replace HO_207000 : Aside0 (Kd.R k32 32 w29 w.heap.size (fun _ => True) (.slice Ao6 t203.length co6) t203) := ⟨h2_⟩
                  replace HO_207001 : Aside0 (Kd.R k35 35 w29 w.heap.size (fun _ => True) (.slice Ao22 x207001_1.length co22) x207001_1) := ⟨h3_⟩
                  replace BK202 := Aside0.mk h5_
                  replace BK206 := Aside0.mk h6_
                  replace HB : Aside0 (Below w.heap.size w w29) := ⟨h7_⟩
                  clear h0_ h1_ h2_ h3_ h4_ h5_ h6_ h7_
                  have hHeld := hS_
                  obtain ⟨co30, eo30⟩ := HA_HO213.out
                  clear HA_HO213
                  subst eo30
                  refine norm_ (a' := ?_) ?_ ?_
                  rotate_left
                  · simp only [putAll, Act.put, List.setIfInBounds_toArray, List.set_cons_zero, List.set_cons_succ]
                    rfl
                  refine one_ (i := 6) (N := some 32) #[true, true, true, true, true, true, true, false, true, true, true, true, true, true, true, true, true, false, false, false, false, false] rfl rfl (one_of HT_.out (by kernel_rfl)) (by decide) (fun K hK => ?_)
                  have hcv31 := own_string (P := Tryd.prog) Tryd.underlying49 Tryd.underlying5 Tryd.underlying9 (Kd.own_of_R HO210.out)
                  with_reducible_and_instances refine value_ (w1 := ?_) (v := ?_) ?hw_ ?hN_ ?_ ?_
                  (case hw_ => rfl)
                  (case hN_ => rfl)
                  rotate_left 2
                  · go_simp
                    constructor
                    · rfl
                    · rfl
                  clear hcv31
                  refine hK.out _ _ ⟨bc BK206 0, bc BK206 1, ((HB.out.cell (World.block_lt_of_cell? w _ hw214_0)).trans hw214_0)⟩ (fun hHeld => ?_)
                  clear hK K
                  refine norm_ (a' := ?_) ?_ ?_
                  rotate_left
                  · show Act.put _ (some 32) _ = _
                    simp only [Act.put, List.setIfInBounds_toArray, List.set_cons_zero, List.set_cons_succ, i64_w, i32_w]
                    rfl
                  refine pure_ (i := 7) (N := some 33) (v := ?_) (a' := ?_) #[true, true, true, true, true, true, true, true, true, true, true, true, true, true, true, true, true, false, false, false, false, false] rfl rfl (any_of HT_.out (by kernel_rfl)) (fun _ _ _ h => h) (Or.inl ⟨by rfl, ?_⟩) ?_ ?_
                  rotate_left
                  · intro w'
                    go_simp
                    with_reducible rfl
                  rotate_left
                  · simp only [Act.put, List.setIfInBounds_toArray, List.set_cons_zero, List.set_cons_succ, i64_w, i32_w]
                    rfl
                  exact norm0_ (hJ5_6_8_16 (v209, .slice (some adz_v212) y211.length co30, adz_v212) _ ⟨hHeld, (by (with_reducible repeat (first | apply Kd.R_alloc | apply Kd.R_drewN | apply Kd.R_drew)); exact HO210.out), (by (with_reducible repeat (first | apply Kd.R_alloc | apply Kd.R_drewN | apply Kd.R_drew)); exact HO213.out), (by (with_reducible repeat (first | apply Kd.R_alloc | apply Kd.R_drewN | apply Kd.R_drew)); exact HO_207000.out), (by (with_reducible repeat (first | apply Kd.R_alloc | apply Kd.R_drewN | apply Kd.R_drew)); exact HO_207001.out), ⟨_, rfl⟩, (pk BK202), (pk BK206), (by repeat (first | (with_reducible first | exact HB.out | apply below_alloc | apply pw_below_drewN | apply below_drew1 | refine below_set ?_ GE202.out | refine below_set ?_ GE206.out) | exact HB.out))⟩)
              · skip
                rintro ⟨v209, v212, adz_v212⟩ w30 ⟨hS_, h0_, h1_, h2_, h3_, h4_, h5_, h6_, h7_⟩
                have HO210 : Aside0 (Kd.R (Kd.int .u8) 5 w30 w.heap.size (fun _ => True) v209 y208) := ⟨h0_⟩
                have HO213 : Aside0 (Kd.R Kd.string 9 w30 w.heap.size (fun _ => True) v212 y211) := ⟨h1_⟩
                have HA_HO213 : Aside0 (∃ c_, (v212 : Value) = .slice (some adz_v212) y211.length c_) := ⟨h4_⟩
                replace HO_207000 : Aside0 (Kd.R k32 32 w30 w.heap.size (fun _ => True) (.slice Ao6 t203.length co6) t203) := ⟨h2_⟩
                replace HO_207001 : Aside0 (Kd.R k35 35 w30 w.heap.size (fun _ => True) (.slice Ao22 x207001_1.length co22) x207001_1) := ⟨h3_⟩
                replace BK202 := Aside0.mk h5_
                replace BK206 := Aside0.mk h6_
                replace HB : Aside0 (Below w.heap.size w w30) := ⟨h7_⟩
                clear h0_ h1_ h2_ h3_ h4_ h5_ h6_ h7_
                have hHeld := hS_
                obtain ⟨co31, eo31⟩ := HA_HO213.out
                clear HA_HO213
                subst eo31
                refine norm_ (a' := ?_) ?_ ?_
                rotate_left
                · simp only [putAll, Act.put, List.setIfInBounds_toArray, List.set_cons_zero, List.set_cons_succ]
                  rfl
                refine one_ (i := 16) (N := some 42) #[true, true, true, true, true, true, true, true, true, true, true, true, true, true, true, true, true, false, false, false, false, false] rfl rfl (one_of HT_.out (by kernel_rfl)) (by decide) (fun K hK => ?_)
                (have p215 : 0 ≤ ((ji18) : Int) := of_decide_eq_true (by first | (with_reducible assumption) | assumption); have q215 : (ji18) < (y211.length : Int) := of_decide_eq_true (by first | (with_reducible assumption) | assumption); obtain ⟨ad215, e215, hx215_0⟩ := Kd.at_string (Kd.R_reads' HO213.out).2.2 (ji18) p215 q215; obtain rfl : adz_v212 = ad215 := (by injection e215))
                with_reducible_and_instances refine value_ (w1 := ?_) (v := ?_) ?hw_ ?hN_ ?_ ?_
                (case hw_ => rfl)
                (case hN_ => rfl)
                rotate_left 2
                · go_simp
                  constructor
                  · rfl
                  · rfl
                clear hx215_0
                refine hK.out _ _ ⟨bc BK206 0, bc BK206 1, ((HB.out.cell (World.block_lt_of_cell? w _ hw214_0)).trans hw214_0)⟩ (fun hHeld => ?_)
                clear hK K
                refine norm_ (a' := ?_) ?_ ?_
                rotate_left
                · show Act.put _ (some 42) _ = _
                  simp only [Act.put, List.setIfInBounds_toArray, List.set_cons_zero, List.set_cons_succ, i64_w, i32_w]
                  rfl
                exact norm0_ (hJ5_6_8_16 (v209, .slice (some adz_v212) y211.length co31, adz_v212) _ ⟨hHeld, (by (with_reducible repeat (first | apply Kd.R_alloc | apply Kd.R_drewN | apply Kd.R_drew)); exact HO210.out), (by (with_reducible repeat (first | apply Kd.R_alloc | apply Kd.R_drewN | apply Kd.R_drew)); exact HO213.out), (by (with_reducible repeat (first | apply Kd.R_alloc | apply Kd.R_drewN | apply Kd.R_drew)); exact HO_207000.out), (by (with_reducible repeat (first | apply Kd.R_alloc | apply Kd.R_drewN | apply Kd.R_drew)); exact HO_207001.out), ⟨_, rfl⟩, (pk BK202), (pk BK206), (by repeat (first | (with_reducible first | exact HB.out | apply below_alloc | apply pw_below_drewN | apply below_drew1 | refine below_set ?_ GE202.out | refine below_set ?_ GE206.out) | exact HB.out))⟩)
            · rw [if_neg c16] at H
              have c16b0 : ((ji15) == 0) = false := beq_eq_false_iff_ne.mpr c16
              have c16b1 : ((ji15) != 0) = true := bne_iff_ne.mpr c16
              have H' := Aside0.mk H
              clear H
              have p207 : 0 ≤ (x6_1 : Int) := of_decide_eq_true (by first | (with_reducible assumption) | assumption)
              have q207 : x6_1 < (l1.length : Int) := of_decide_eq_true (by first | (with_reducible assumption) | assumption)
              obtain ⟨ad207, e207, hx207_0⟩ := Kd.at_int HR1.out x6_1 p207 q207
              cases e207
              replace hx207_0 := (HB.out.cell (World.block_lt_of_cell? w _ hx207_0)).trans hx207_0
              replace p207 := eq_true p207
              replace q207 := eq_true q207
              go_wp2_with (first | (go_at_call 14; refine (damperlaw5_within.keep _ _ rfl (by first | decide | assumption | exact wi_ne (by assumption) | exact wi_ne' (by assumption) | omega) _).mono ?_; rintro e w' ⟨rfl, rfl⟩))
              go_roundg kj9
              case measure => have := HK1.out; have := HJ9.out; omega
              case rel => exact ⟨(wrap64 (x6_1 + 1)), (x207001_1), (u207001), (by first | rfl | (simp; done) | (simp [*]; done)), H', ⟨by have := HK1.out; have := HJ9.out; omega⟩, ⟨by (with_reducible repeat (first | apply Kd.R_alloc | apply Kd.R_drewN | apply Kd.R_drew)); exact HO_207000.out⟩, ⟨by (with_reducible repeat (first | apply Kd.R_alloc | apply Kd.R_drewN | apply Kd.R_drew)); exact HO_207001.out⟩, ⟨by (with_reducible repeat (first | refine blk_drewN ?_ _ | refine blk_drew ?_ | refine blk_alloc ?_ _)); exact BK202.out⟩, ⟨by (with_reducible repeat (first | refine blk_drewN ?_ _ | refine blk_drew ?_ | refine blk_alloc ?_ _)); exact BK206.out⟩, ⟨by repeat (first | (with_reducible first | exact HB.out | apply below_alloc | apply pw_below_drewN | apply below_drew1 | refine below_set ?_ GE202.out | refine below_set ?_ GE206.out) | exact HB.out)⟩⟩
          · replace c12 := Bool.eq_false_iff.mpr c12
            subst c12
            have H1 : (some (t203, x207001_1)) = some (r1, r2) := by rw [if_neg (show ¬ (false = true) by decide)] at H; exact H
            clear H
            have H := H1
            clear H1
            simp only [Option.some.injEq, Prod.mk.injEq] at H
            obtain ⟨rfl, rfl⟩ := H
            have hnb35 := NB206_202.out
            have hnc35 := NB202_206.out
            have hcz36_0 : wc.cell? ⟨gb206, 0, none⟩ = some (.slice Ao6 t203.length co6) := bc BK206 0
            have hcz36_1 : wc.cell? ⟨gb206, 1, none⟩ = some (u207001) := bc BK206 1
            have hfz36_0 := blk_frozen BK206.out 0
            have hfz36_1 := blk_frozen BK206.out 1
            have hcz37_0 : wc.cell? ⟨gb202, 0, none⟩ = some (.slice none 0 0) := bc BK202 0
            have hcz37_1 : wc.cell? ⟨gb202, 1, none⟩ = some (.slice none 0 0) := bc BK202 1
            have hfz37_0 := blk_frozen BK202.out 0
            have hfz37_1 := blk_frozen BK202.out 1
            obtain ⟨Ao38, co38, eo38⟩ := Kd.R_slice HO_207001.out
            subst eo38
            go_wp2_with (first | (go_at_call 14; refine (damperlaw5_within.keep _ _ rfl (by first | decide | assumption | exact wi_ne (by assumption) | exact wi_ne' (by assumption) | omega) _).mono ?_; rintro e w' ⟨rfl, rfl⟩))
            refine bodyPost_ret (results_cell_row rfl _ _ gb202 25 #[.slice Ao6 t203.length co6, .slice Ao38 x207001_1.length co38] (0, 0) _ rfl (by (with_reducible repeat (first | refine blk_drewN ?_ _ | refine blk_drew ?_ | refine blk_alloc ?_ _)); refine blk_put (cs := #[.slice Ao6 t203.length co6, .slice none 0 0]) ?_ 1 _ rfl; (with_reducible repeat (first | refine blk_drewN ?_ _ | refine blk_drew ?_ | refine blk_alloc ?_ _)); refine blk_put (cs := #[.slice none 0 0, .slice none 0 0]) ?_ 0 _ rfl; (with_reducible repeat (first | refine blk_drewN ?_ _ | refine blk_drew ?_ | refine blk_alloc ?_ _)); exact BK202.out) Tryd.underlying25 rfl (by kernel_rfl)) rfl ?_
            exact ⟨_, _, by first | rfl | (simp [errW_none, errW_some] <;> rfl) | (simp [*, errW_none, errW_some] <;> rfl), by (with_reducible repeat (first | apply Kd.R_alloc | apply Kd.R_drewN | apply Kd.R_drew)); exact Kd.R_mono (Kd.R_far (p := ⟨gb202, 1, none⟩) (Kd.R_far (p := ⟨gb202, 0, none⟩) (Kd.R_types HO_207000.out BK202.out (by decide)) (fun _ hk => hk.2) (.slice Ao6 t203.length co6)) (fun _ hk => hk.2) (.slice Ao38 x207001_1.length co38)) (fun _ hk => trivial), by (with_reducible repeat (first | apply Kd.R_alloc | apply Kd.R_drewN | apply Kd.R_drew)); exact Kd.R_mono (Kd.R_far (p := ⟨gb202, 1, none⟩) (Kd.R_far (p := ⟨gb202, 0, none⟩) (Kd.R_types HO_207001.out BK202.out (by decide)) (fun _ hk => hk.2) (.slice Ao6 t203.length co6)) (fun _ hk => hk.2) (.slice Ao38 x207001_1.length co38)) (fun _ hk => trivial), by repeat (first | (with_reducible first | exact HB.out | apply below_alloc | apply pw_below_drewN | apply below_drew1 | refine below_set ?_ GE202.out | refine below_set ?_ GE206.out) | exact HB.out)⟩

end Go.Proofs.YtckcimahclpdfaaDoor.Ma
