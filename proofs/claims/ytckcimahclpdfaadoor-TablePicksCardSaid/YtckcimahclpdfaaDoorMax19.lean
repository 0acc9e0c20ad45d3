-- Written by a program of this session (wip/tools/myprint.py), in the form of the kit's print. Not trusted: Lean checks it.
import Derived.Test.YtckcimahclpdfaaDoorMax0
import Derived.Test.YtckcimahclpdfaaDoorMax18
namespace Go.Proofs.YtckcimahclpdfaaDoor.Ma
open Go.RowKit Go.Proofs.YtckcimahclpdfaaDoorW.PrintWords Go.Proofs.YtckcimahclpdfaaDoorW.PrintLast Go.Proofs.YtckcimahclpdfaaDoorW.PrintMore
attribute [local go_sem] max2_int min2_int max_two min_two max_three min_three max_four min_four   -- for this text's walks alone
set_option linter.unusedVariables false
set_option linter.unusedSimpArgs false

/-! ### damperref5_Text: function 23 -/
mutual
def damperref5_Text.l0 : Nat → ByteArray → Int → List (S32) → List (S35) → Option (ByteArray)
  | 0, _, _, _, _ => none
  | k + 1, x3, x4, x371000, x371001 => if x4 < (x371000.length : Int) then (if x3.size + 1 ≤ 9223372036854775807 then (if 0 ≤ x4 then (if (x3 ++ (⟨#[32]⟩ : ByteArray)).size + ((rd_T32 x371000 x4).f0).size ≤ 9223372036854775807 then (if ((x3 ++ (⟨#[32]⟩ : ByteArray)) ++ ((rd_T32 x371000 x4).f0)).size + 1 ≤ 9223372036854775807 then ((damperref1_Digits.f k ((rd_T32 x371000 x4).f1)).bind fun t373 => (if (((x3 ++ (⟨#[32]⟩ : ByteArray)) ++ ((rd_T32 x371000 x4).f0)) ++ (⟨#[58]⟩ : ByteArray)).size + t373.size ≤ 9223372036854775807 then (damperref5_Text.l0 k ((((x3 ++ (⟨#[32]⟩ : ByteArray)) ++ ((rd_T32 x371000 x4).f0)) ++ (⟨#[58]⟩ : ByteArray)) ++ t373) (wrap64 (x4 + 1)) x371000 x371001) else (none))) else (none)) else (none)) else (none)) else (none)) else (damperref5_Text.l1 k x3 0 x371000 x371001)
def damperref5_Text.l1 : Nat → ByteArray → Int → List (S32) → List (S35) → Option (ByteArray)
  | 0, _, _, _, _ => none
  | k + 1, x3, x5, x371000, x371001 => if x5 < (x371001.length : Int) then (if x3.size + 1 ≤ 9223372036854775807 then (if 0 ≤ x5 then (if (x3 ++ (⟨#[32]⟩ : ByteArray)).size + ((rd_T35 x371001 x5).f0).size ≤ 9223372036854775807 then (if ((x3 ++ (⟨#[32]⟩ : ByteArray)) ++ ((rd_T35 x371001 x5).f0)).size + 1 ≤ 9223372036854775807 then (if (((x3 ++ (⟨#[32]⟩ : ByteArray)) ++ ((rd_T35 x371001 x5).f0)) ++ (⟨#[61]⟩ : ByteArray)).size + ((rd_T35 x371001 x5).f1).size ≤ 9223372036854775807 then (damperref5_Text.l1 k ((((x3 ++ (⟨#[32]⟩ : ByteArray)) ++ ((rd_T35 x371001 x5).f0)) ++ (⟨#[61]⟩ : ByteArray)) ++ ((rd_T35 x371001 x5).f1)) (wrap64 (x5 + 1)) x371000 x371001) else (none)) else (none)) else (none)) else (none)) else (none)) else (if x3.toList = ([] : List UInt8) then (some (⟨#[]⟩ : ByteArray)) else (if 1 ≤ (x3.size : Int) then (some (x3.extract 1 x3.size)) else (none)))
end
def damperref5_Text.f (k : Nat) (l0_0 : List (S32)) (l0_1 : List (S35)) : Option (ByteArray) := damperref5_Text.l0 k (⟨#[]⟩ : ByteArray) 0 l0_0 l0_1
theorem damperref5_Text.mono_l : ∀ k, (∀ y0 y1 y2 y3, LeO (damperref5_Text.l0 k y0 y1 y2 y3) (damperref5_Text.l0 (k + 1) y0 y1 y2 y3)) ∧ (∀ y0 y1 y2 y3, LeO (damperref5_Text.l1 k y0 y1 y2 y3) (damperref5_Text.l1 (k + 1) y0 y1 y2 y3))
  | 0 => ⟨fun _ _ _ _ r h => by simp [damperref5_Text.l0] at h, fun _ _ _ _ r h => by simp [damperref5_Text.l1] at h⟩
  | k + 1 => by
    obtain ⟨ih0, ih1⟩ := damperref5_Text.mono_l k
    refine ⟨?_, ?_⟩
    · intro y0 y1 y2 y3
      unfold damperref5_Text.l0
      repeat' first
      | (with_reducible exact ih0 _ _ _ _)
      | (with_reducible exact ih1 _ _ _ _)
      | (with_reducible exact damperref1_Digits.mono _ _)
      | (with_reducible exact LeO.refl _)
      | (with_reducible exact LeO.none _)
      | (with_reducible refine LeO.ite ?_ ?_)
      | (with_reducible refine LeO.bind ?_ (fun _ => ?_))
      | exact ih0 _ _ _ _
      | exact ih1 _ _ _ _
      | exact damperref1_Digits.mono _ _
      | exact LeO.none _
      | refine LeO.ite ?_ ?_
      | refine LeO.bind ?_ (fun _ => ?_)
    · intro y0 y1 y2 y3
      unfold damperref5_Text.l1
      repeat' first
      | (with_reducible exact ih0 _ _ _ _)
      | (with_reducible exact ih1 _ _ _ _)
      | (with_reducible exact damperref1_Digits.mono _ _)
      | (with_reducible exact LeO.refl _)
      | (with_reducible exact LeO.none _)
      | (with_reducible refine LeO.ite ?_ ?_)
      | (with_reducible refine LeO.bind ?_ (fun _ => ?_))
      | exact ih0 _ _ _ _
      | exact ih1 _ _ _ _
      | exact damperref1_Digits.mono _ _
      | exact LeO.none _
      | refine LeO.ite ?_ ?_
      | refine LeO.bind ?_ (fun _ => ?_)
theorem damperref5_Text.mono : ∀ a0 a1 k, LeO (damperref5_Text.f k a0 a1) (damperref5_Text.f (k + 1) a0 a1) := by
  intro a0 a1 k
  obtain ⟨ih0, ih1⟩ := damperref5_Text.mono_l k
  unfold damperref5_Text.f
  repeat' first
      | (with_reducible exact ih0 _ _ _ _)
      | (with_reducible exact ih1 _ _ _ _)
      | (with_reducible exact damperref1_Digits.mono _ _)
      | (with_reducible exact LeO.refl _)
      | (with_reducible exact LeO.none _)
      | (with_reducible refine LeO.ite ?_ ?_)
      | (with_reducible refine LeO.bind ?_ (fun _ => ?_))
      | exact ih0 _ _ _ _
      | exact ih1 _ _ _ _
      | exact damperref1_Digits.mono _ _
      | exact LeO.none _
      | refine LeO.ite ?_ ?_
      | refine LeO.bind ?_ (fun _ => ?_)
def damperref5_Text.T5 : Bool × List (List Nat × List Nat) := (true, [([], []), ([0], [0]), ([], []), ([2], [2]), ([], []), ([3, 4], [3, 4]), ([5], [5]), ([6], [6]), ([1, 7], [1, 7]), ([8], [8]), ([], []), ([10], [10]), ([], []), ([11, 12], [11, 12]), ([13], [13]), ([14], [14]), ([15], [15]), ([9, 16], [9, 16]), ([17, 16, 0, 1, 2, 3, 4, 5, 6, 7, 8, 9, 10, 11, 12, 13, 14, 15, 16, 17], [0, 17])])
def damperref5_Text.B5 : List Nat := [0, 1, 0, 4, 0, 28, 60, 124, 255, 511, 0, 1024, 0, 7168, 15360, 31744, 64512, 131071, 262143]
theorem damperref5_Text.tab5 : rtab .any (opsOf Tryd.f23 5) = damperref5_Text.T5 := by kernel_rfl
theorem damperref5_Text.bits5 : waitsOk damperref5_Text.T5.2 damperref5_Text.B5 = true := by kernel_rfl
def damperref5_Text.T9 : Bool × List (List Nat × List Nat) := (true, [([], []), ([0], [0]), ([], []), ([2], [2]), ([], []), ([3, 4], [3, 4]), ([5], [5]), ([6], [6]), ([1, 7], [1, 7]), ([8], [8]), ([], []), ([10], [10]), ([], []), ([11, 12], [11, 12]), ([13], [13]), ([14], [14]), ([9, 15], [9, 15]), ([16, 0, 1, 2, 3, 4, 5, 6, 7, 8, 9, 10, 11, 12, 13, 14, 15, 16], [0, 16])])
def damperref5_Text.B9 : List Nat := [0, 1, 0, 4, 0, 28, 60, 124, 255, 511, 0, 1024, 0, 7168, 15360, 31744, 65535, 131071]
theorem damperref5_Text.tab9 : rtab .any (opsOf Tryd.f23 9) = damperref5_Text.T9 := by kernel_rfl
theorem damperref5_Text.bits9 : waitsOk damperref5_Text.T9.2 damperref5_Text.B9 = true := by kernel_rfl
set_option maxHeartbeats 8000000 in
set_option maxRecDepth 100000 in
theorem damperref5_Text.calls (k : Nat) (A0_0 : Option Addr) (c0_0 : Nat) (l0_0 : List (S32)) (A0_1 : Option Addr) (c0_1 : Nat) (l0_1 : List (S35)) (r : ByteArray) (w : World) (hr0_0 : Kd.C k32 w A0_0 l0_0.length l0_0) (hc0_0 : l0_0.length ≤ c0_0) (hr0_1 : Kd.C k35 w A0_1 l0_1.length l0_1) (hc0_1 : l0_1.length ≤ c0_1) (h : damperref5_Text.f k l0_0 l0_1 = some r) :
    Calls Tryd.prog 23 #[.agg #[.slice A0_0 l0_0.length c0_0, .slice A0_1 l0_1.length c0_1]] w fun e w' => e = .returned (.string r) ∧ Below w.heap.size w w' := by
  have hu25 := Tryd.underlying25
  have HR0_0 := Aside0.mk hr0_0
  have HC0_0 := Aside0.mk hc0_0
  clear hr0_0 hc0_0
  have HR0_1 := Aside0.mk hr0_1
  have HC0_1 := Aside0.mk hc0_1
  clear hr0_1 hc0_1
  have HB := Aside0.mk (Below.refl w.heap.size w)
  have H : (damperref5_Text.l0 k (⟨#[]⟩ : ByteArray) 0 l0_0 l0_1) = some r := h
  clear h
  have H' := Aside0.mk H
  clear H
  go_enter Tryd.func23, Tryd.ntmps23
  go_wp2_with (first | ((with_reducible refine gate_dst (N := 1) rfl ?_); refine box_event ?hg (N := 1) ?hd (cs := #[.slice A0_0 l0_0.length c0_0, .slice A0_1 l0_1.length c0_1]) (t := 25) ?hr ?_; (case hd => rfl); (case hg => rfl); (case hr => first | (go_simp; done) | (go_simp; rfl)); intro gb370 hg w2 hbox hb; have n0_ := Aside0.mk (below_step (by repeat (first | (with_reducible first | exact HB.out | apply below_alloc | apply pw_below_drewN | apply below_drew1) | exact HB.out)) hb); have n1_ := Aside0.mk (hbox); have n2_ := Aside0.mk ((by rw [hg]; exact (below_size (by repeat (first | (with_reducible first | exact HB.out | apply below_alloc | apply pw_below_drewN | apply below_drew1) | exact HB.out))) : w.heap.size ≤ gb370)); have n3_ := Aside0.mk ((by rw [hg]; exact (below_size (by repeat (first | (with_reducible first | exact HB.out | apply below_alloc | apply pw_below_drewN | apply below_drew1) | exact HB.out))) : w.heap.size ≤ gb370)); clear HB; have HB := n0_; have BK370 := n1_; have GW370 := n2_; have GE370 := n3_; clear n0_ n1_ n2_ n3_; clear hb hbox hg))
  go_loopg [3, 4] k (fun kq v3 v4 w' => ∃ (x3_1 : ByteArray) (x4_1 : Int), v3 = .string x3_1 ∧ v4 = .int .i64 x4_1 ∧ Aside0 (damperref5_Text.l0 kq x3_1 x4_1 l0_0 l0_1 = some r) ∧ Aside0 (kq ≤ k) ∧ Aside0 (w'.heap[gb370]? = some (.cells #[(.slice A0_0 l0_0.length c0_0), (.slice A0_1 l0_1.length c0_1)] 25 (0, 0))) ∧ Aside0 (Below w.heap.size w w'))
  case atStart => exact ⟨((⟨#[]⟩ : ByteArray)), (0), (by first | rfl | (simp; done) | (simp [*]; done)), (by first | rfl | (simp; done) | (simp [*]; done)), H', ⟨Nat.le_refl _⟩, ⟨by (with_reducible repeat (first | refine blk_drewN ?_ _ | refine blk_drew ?_ | refine blk_alloc ?_ _)); exact BK370.out⟩, ⟨by repeat (first | (with_reducible first | exact HB.out | apply below_alloc | apply pw_below_drewN | apply below_drew1 | refine below_set ?_ GE370.out) | exact HB.out)⟩⟩
  case round =>
    clear H'
    try clear c2
    try clear p2
    obtain ⟨x3_1, x4_1, rfl, rfl, HA, HK1, BK370, HB⟩ := hrel
    cases gk with
    | zero => exact absurd HA.out (by simp [damperref5_Text.l0])
    | succ k1 =>
      have H := HA.out
      clear HA
      simp only [damperref5_Text.l0] at H
      by_cases c3 : x4_1 < (l0_0.length : Int)
      · rw [if_pos c3] at H
        have c3b0 : decide (x4_1 < (l0_0.length : Int)) = true := decide_eq_true c3
        clear c3
        by_cases c4 : x3_1.size + 1 ≤ 9223372036854775807
        rotate_left
        · rw [if_neg c4] at H
          exact absurd H (by simp)
        rw [if_pos c4] at H
        have c4b0 := eq_true c4
        have c4b1 : decide (x3_1.size + 1 ≤ 9223372036854775807) = true := decide_eq_true c4
        try have c4b2 : (9223372036854775807 < x3_1.size + 1) = False := eq_false (Nat.not_lt.2 c4)
        try (have c4b4 := c4; simp at c4b4; have c4b5 := eq_false (Nat.not_lt.2 c4b4))
        by_cases c5 : 0 ≤ x4_1
        rotate_left
        · rw [if_neg c5] at H
          exact absurd H (by simp)
        rw [if_pos c5] at H
        have c5b0 : decide (0 ≤ x4_1) = true := decide_eq_true c5
        clear c5
        by_cases c6 : (x3_1 ++ (⟨#[32]⟩ : ByteArray)).size + ((rd_T32 l0_0 x4_1).f0).size ≤ 9223372036854775807
        rotate_left
        · rw [if_neg c6] at H
          exact absurd H (by simp)
        rw [if_pos c6] at H
        have c6b0 := eq_true c6
        have c6b1 : decide ((x3_1 ++ (⟨#[32]⟩ : ByteArray)).size + ((rd_T32 l0_0 x4_1).f0).size ≤ 9223372036854775807) = true := decide_eq_true c6
        try have c6b3 : (9223372036854775807 < x3_1.size + 1 + ((rd_T32 l0_0 x4_1).f0).size) = False := eq_false (by have h_ := c6; simp only [ByteArray.size_append] at h_; exact Nat.not_lt.2 h_)
        try have c6b2 : (9223372036854775807 < (x3_1 ++ (⟨#[32]⟩ : ByteArray)).size + ((rd_T32 l0_0 x4_1).f0).size) = False := eq_false (Nat.not_lt.2 c6)
        try (have c6b4 := c6; simp at c6b4; have c6b5 := eq_false (Nat.not_lt.2 c6b4))
        by_cases c7 : ((x3_1 ++ (⟨#[32]⟩ : ByteArray)) ++ ((rd_T32 l0_0 x4_1).f0)).size + 1 ≤ 9223372036854775807
        rotate_left
        · rw [if_neg c7] at H
          exact absurd H (by simp)
        rw [if_pos c7] at H
        have c7b0 := eq_true c7
        have c7b1 : decide (((x3_1 ++ (⟨#[32]⟩ : ByteArray)) ++ ((rd_T32 l0_0 x4_1).f0)).size + 1 ≤ 9223372036854775807) = true := decide_eq_true c7
        try have c7b3 : (9223372036854775807 < x3_1.size + 1 + ((rd_T32 l0_0 x4_1).f0).size + 1) = False := eq_false (by have h_ := c7; simp only [ByteArray.size_append] at h_; exact Nat.not_lt.2 h_)
        try have c7b2 : (9223372036854775807 < ((x3_1 ++ (⟨#[32]⟩ : ByteArray)) ++ ((rd_T32 l0_0 x4_1).f0)).size + 1) = False := eq_false (Nat.not_lt.2 c7)
        try (have c7b4 := c7; simp at c7b4; have c7b5 := eq_false (Nat.not_lt.2 c7b4))
        replace H := Option.bind_eq_some_iff.mp H
        obtain ⟨t373, A80, H⟩ := H
        replace H : (if (((x3_1 ++ (⟨#[32]⟩ : ByteArray)) ++ ((rd_T32 l0_0 x4_1).f0)) ++ (⟨#[58]⟩ : ByteArray)).size + t373.size ≤ 9223372036854775807 then (damperref5_Text.l0 k1 ((((x3_1 ++ (⟨#[32]⟩ : ByteArray)) ++ ((rd_T32 l0_0 x4_1).f0)) ++ (⟨#[58]⟩ : ByteArray)) ++ t373) (wrap64 (x4_1 + 1)) l0_0 l0_1) else (none)) = some r := H
        have A8 := Aside0.mk A80
        clear A80
        by_cases c9 : (((x3_1 ++ (⟨#[32]⟩ : ByteArray)) ++ ((rd_T32 l0_0 x4_1).f0)) ++ (⟨#[58]⟩ : ByteArray)).size + t373.size ≤ 9223372036854775807
        rotate_left
        · rw [if_neg c9] at H
          exact absurd H (by simp)
        rw [if_pos c9] at H
        have c9b0 := eq_true c9
        have c9b1 : decide ((((x3_1 ++ (⟨#[32]⟩ : ByteArray)) ++ ((rd_T32 l0_0 x4_1).f0)) ++ (⟨#[58]⟩ : ByteArray)).size + t373.size ≤ 9223372036854775807) = true := decide_eq_true c9
        try have c9b3 : (9223372036854775807 < x3_1.size + 1 + ((rd_T32 l0_0 x4_1).f0).size + 1 + t373.size) = False := eq_false (by have h_ := c9; simp only [ByteArray.size_append] at h_; exact Nat.not_lt.2 h_)
        try have c9b2 : (9223372036854775807 < (((x3_1 ++ (⟨#[32]⟩ : ByteArray)) ++ ((rd_T32 l0_0 x4_1).f0)) ++ (⟨#[58]⟩ : ByteArray)).size + t373.size) = False := eq_false (Nat.not_lt.2 c9)
        try (have c9b4 := c9; simp at c9b4; have c9b5 := eq_false (Nat.not_lt.2 c9b4))
        have H' := Aside0.mk H
        clear H
        have hcz10_0 : wr.cell? ⟨gb370, 0, none⟩ = some (.slice A0_0 l0_0.length c0_0) := bc BK370 0
        have hcz10_1 : wr.cell? ⟨gb370, 1, none⟩ = some (.slice A0_1 l0_1.length c0_1) := bc BK370 1
        have hfz10_0 := blk_frozen BK370.out 0
        have hfz10_1 := blk_frozen BK370.out 1
        try go_wp2
        replace BK370 := Aside0.mk (blk_drew BK370.out)
        replace HB := Aside0.mk (below_drew1 HB.out)
        have p371 : 0 ≤ (x4_1 : Int) := of_decide_eq_true (by first | (with_reducible assumption) | assumption)
        have q371 : x4_1 < (l0_0.length : Int) := of_decide_eq_true (by first | (with_reducible assumption) | assumption)
        obtain ⟨ad371, e371, hx371_0, hx371_1⟩ := at_T32 HR0_0.out x4_1 p371 q371
        have hw371_1 := hx371_1
        have hw371_0 := hx371_0
        cases e371
        replace hx371_0 := (HB.out.cell (World.block_lt_of_cell? w _ hx371_0)).trans hx371_0
        replace hx371_1 := (HB.out.cell (World.block_lt_of_cell? w _ hx371_1)).trans hx371_1
        replace p371 := eq_true p371
        replace q371 := eq_true q371
        have p372 : 0 ≤ (x4_1 : Int) := of_decide_eq_true (by first | (with_reducible assumption) | assumption)
        have q372 : x4_1 < (l0_0.length : Int) := of_decide_eq_true (by first | (with_reducible assumption) | assumption)
        obtain ⟨ad372, e372, hx372_0, hx372_1⟩ := at_T32 HR0_0.out x4_1 p372 q372
        have hw372_1 := hx372_1
        have hw372_0 := hx372_0
        obtain rfl : ad371 = ad372 := (by injection e372)
        replace hx372_0 := (HB.out.cell (World.block_lt_of_cell? w _ hx372_0)).trans hx372_0
        replace hx372_1 := (HB.out.cell (World.block_lt_of_cell? w _ hx372_1)).trans hx372_1
        replace p372 := eq_true p372
        replace q372 := eq_true q372
        refine start_ (n := 19) (S := fun w' => w'.cell? ⟨gb370, 0, none⟩ = some (.slice (some ad371) l0_0.length c0_0) ∧ w'.cell? ⟨gb370, 1, none⟩ = some (.slice A0_1 l0_1.length c0_1) ∧ w'.cell? (ad371.add ((x4_1).toNat * 2)) = some (.string ((rd_T32 l0_0 x4_1).f0)) ∧ w'.cell? ⟨(ad371.add ((x4_1).toNat * 2)).block, (ad371.add ((x4_1).toNat * 2)).off + 1, none⟩ = some (.int .i64 ((rd_T32 l0_0 x4_1).f1)) ∧ w'.cell? (ad371.add ((x4_1).toNat * 2)) = some (.string ((rd_T32 l0_0 x4_1).f0)) ∧ w'.cell? ⟨(ad371.add ((x4_1).toNat * 2)).block, (ad371.add ((x4_1).toNat * 2)).off + 1, none⟩ = some (.int .i64 ((rd_T32 l0_0 x4_1).f1))) (ds := []) #[false, false, false, false, false, false, false, false, false, false, false, false, false, false, false, false, false, false, false] (by kernel_rfl) rfl rfl ⟨bc BK370 0, bc BK370 1, ((HB.out.cell (World.block_lt_of_cell? w _ hw371_0)).trans hw371_0), ((HB.out.cell (World.block_lt_of_cell? w _ hw371_1)).trans hw371_1), ((HB.out.cell (World.block_lt_of_cell? w _ hw372_0)).trans hw372_0), ((HB.out.cell (World.block_lt_of_cell? w _ hw372_1)).trans hw372_1)⟩ (fun hHeld => ?_); refine with_tabW damperref5_Text.tab5 damperref5_Text.bits5 (fun HT_ HW_ => ?_)
        generalize wr.drew = w11 at BK370 HB hx371_0 hx371_1 hx372_0 hx372_1 hHeld ⊢
        refine pure_ (i := 0) (N := some 13) (v := ?_) (a' := ?_) #[true, false, false, false, false, false, false, false, false, false, false, false, false, false, false, false, false, false, false] rfl rfl (any_of HT_.out (by kernel_rfl)) (fun _ _ _ h => h) (Or.inl ⟨by rfl, ?_⟩) ?_ ?_
        rotate_left
        · intro w'
          go_simp
          with_reducible rfl
        rotate_left
        · simp only [Act.put, List.setIfInBounds_toArray, List.set_cons_zero, List.set_cons_succ, i64_w, i32_w]
          rfl
        refine pure_ (i := 1) (N := some 14) (v := ?_) (a' := ?_) #[true, true, false, false, false, false, false, false, false, false, false, false, false, false, false, false, false, false, false] rfl rfl (any_of HT_.out (by kernel_rfl)) (fun _ _ _ h => h) (Or.inl ⟨by rfl, ?_⟩) ?_ ?_
        rotate_left
        · intro w'
          go_simp
          with_reducible rfl
        rotate_left
        · simp only [Act.put, List.setIfInBounds_toArray, List.set_cons_zero, List.set_cons_succ, i64_w, i32_w]
          rfl
        refine pure_ (i := 2) (N := some 15) (v := ?_) (a' := ?_) #[true, true, true, false, false, false, false, false, false, false, false, false, false, false, false, false, false, false, false] rfl rfl (any_of HT_.out (by kernel_rfl)) (fun _ _ _ h => h) (Or.inl ⟨by rfl, ?_⟩) ?_ ?_
        rotate_left
        · intro w'
          go_simp
          with_reducible rfl
        rotate_left
        · simp only [Act.put, List.setIfInBounds_toArray, List.set_cons_zero, List.set_cons_succ, i64_w, i32_w]
          rfl
        refine pure_ (i := 4) (N := some 17) (v := ?_) (a' := ?_) #[true, true, true, false, true, false, false, false, false, false, false, false, false, false, false, false, false, false, false] rfl rfl (any_of HT_.out (by kernel_rfl)) (fun _ _ _ h => h) (Or.inl ⟨by rfl, ?_⟩) ?_ ?_
        rotate_left
        · intro w'
          go_simp
          with_reducible rfl
        rotate_left
        · simp only [Act.put, List.setIfInBounds_toArray, List.set_cons_zero, List.set_cons_succ, i64_w, i32_w]
          rfl
        refine pure_ (i := 10) (N := some 23) (v := ?_) (a' := ?_) #[true, true, true, false, true, false, false, false, false, false, true, false, false, false, false, false, false, false, false] rfl rfl (any_of HT_.out (by kernel_rfl)) (fun _ _ _ h => h) (Or.inl ⟨by rfl, ?_⟩) ?_ ?_
        rotate_left
        · intro w'
          go_simp
          with_reducible rfl
        rotate_left
        · simp only [Act.put, List.setIfInBounds_toArray, List.set_cons_zero, List.set_cons_succ, i64_w, i32_w]
          rfl
        refine pure_ (i := 12) (N := some 25) (v := ?_) (a' := ?_) #[true, true, true, false, true, false, false, false, false, false, true, false, true, false, false, false, false, false, false] rfl rfl (any_of HT_.out (by kernel_rfl)) (fun _ _ _ h => h) (Or.inl ⟨by rfl, ?_⟩) ?_ ?_
        rotate_left
        · intro w'
          go_simp
          with_reducible rfl
        rotate_left
        · simp only [Act.put, List.setIfInBounds_toArray, List.set_cons_zero, List.set_cons_succ, i64_w, i32_w]
          rfl
        refine take_ (i := 3) (N := some 16) (v := ?_) (a' := ?_) #[true, true, true, true, true, false, false, false, false, false, true, false, true, false, false, false, false, false, false] rfl rfl (take_ofW HT_.out HW_.out (by kernel_rfl)) (fun _ _ _ h => h) (Or.inl ⟨by rfl, ?_⟩) hHeld ?_ ?_
        rotate_left
        · rintro w' ⟨s0, s1, s2, s3, s4, s5⟩
          go_simp
          with_reducible rfl
        rotate_left
        · simp only [Act.put, List.setIfInBounds_toArray, List.set_cons_zero, List.set_cons_succ, i64_w, i32_w]
          rfl
        refine pure_ (i := 5) (N := some 18) (v := ?_) (a' := ?_) #[true, true, true, true, true, true, false, false, false, false, true, false, true, false, false, false, false, false, false] rfl rfl (any_of HT_.out (by kernel_rfl)) (fun _ _ _ h => h) (Or.inl ⟨by rfl, ?_⟩) ?_ ?_
        rotate_left
        · intro w'
          go_simp
          with_reducible rfl
        rotate_left
        · simp only [Act.put, List.setIfInBounds_toArray, List.set_cons_zero, List.set_cons_succ, i64_w, i32_w]
          rfl
        refine pure_ (i := 6) (N := some 19) (v := ?_) (a' := ?_) #[true, true, true, true, true, true, true, false, false, false, true, false, true, false, false, false, false, false, false] rfl rfl (any_of HT_.out (by kernel_rfl)) (fun _ _ _ h => h) (Or.inl ⟨by rfl, ?_⟩) ?_ ?_
        rotate_left
        · intro w'
          go_simp
          with_reducible rfl
        rotate_left
        · simp only [Act.put, List.setIfInBounds_toArray, List.set_cons_zero, List.set_cons_succ, i64_w, i32_w]
          rfl
        refine take_ (i := 7) (N := some 20) (v := ?_) (a' := ?_) #[true, true, true, true, true, true, true, true, false, false, true, false, true, false, false, false, false, false, false] rfl rfl (take_ofW HT_.out HW_.out (by kernel_rfl)) (fun _ _ _ h => h) (Or.inl ⟨by rfl, ?_⟩) hHeld ?_ ?_
        rotate_left
        · rintro w' ⟨s0, s1, s2, s3, s4, s5⟩
          go_simp
          with_reducible rfl
        rotate_left
        · simp only [Act.put, List.setIfInBounds_toArray, List.set_cons_zero, List.set_cons_succ, i64_w, i32_w]
          rfl
        refine pure_ (i := 8) (N := some 21) (v := ?_) (a' := ?_) #[true, true, true, true, true, true, true, true, true, false, true, false, true, false, false, false, false, false, false] rfl rfl (any_of HT_.out (by kernel_rfl)) (fun _ _ _ h => h) (Or.inl ⟨by rfl, ?_⟩) ?_ ?_
        rotate_left
        · intro w'
          go_simp
          with_reducible rfl
        rotate_left
        · simp only [Act.put, List.setIfInBounds_toArray, List.set_cons_zero, List.set_cons_succ, i64_w, i32_w]
          rfl
        refine pure_ (i := 9) (N := some 22) (v := ?_) (a' := ?_) #[true, true, true, true, true, true, true, true, true, true, true, false, true, false, false, false, false, false, false] rfl rfl (any_of HT_.out (by kernel_rfl)) (fun _ _ _ h => h) (Or.inl ⟨by rfl, ?_⟩) ?_ ?_
        rotate_left
        · intro w'
          go_simp
          with_reducible rfl
        rotate_left
        · simp only [Act.put, List.setIfInBounds_toArray, List.set_cons_zero, List.set_cons_succ, i64_w, i32_w]
          rfl
        refine take_ (i := 11) (N := some 24) (v := ?_) (a' := ?_) #[true, true, true, true, true, true, true, true, true, true, true, true, true, false, false, false, false, false, false] rfl rfl (take_ofW HT_.out HW_.out (by kernel_rfl)) (fun _ _ _ h => h) (Or.inl ⟨by rfl, ?_⟩) hHeld ?_ ?_
        rotate_left
        · rintro w' ⟨s0, s1, s2, s3, s4, s5⟩
          go_simp
          with_reducible rfl
        rotate_left
        · simp only [Act.put, List.setIfInBounds_toArray, List.set_cons_zero, List.set_cons_succ, i64_w, i32_w]
          rfl
        refine pure_ (i := 13) (N := some 26) (v := ?_) (a' := ?_) #[true, true, true, true, true, true, true, true, true, true, true, true, true, true, false, false, false, false, false] rfl rfl (any_of HT_.out (by kernel_rfl)) (fun _ _ _ h => h) (Or.inl ⟨by rfl, ?_⟩) ?_ ?_
        rotate_left
        · intro w'
          go_simp
          with_reducible rfl
        rotate_left
        · simp only [Act.put, List.setIfInBounds_toArray, List.set_cons_zero, List.set_cons_succ, i64_w, i32_w]
          rfl
        refine pure_ (i := 14) (N := some 27) (v := ?_) (a' := ?_) #[true, true, true, true, true, true, true, true, true, true, true, true, true, true, true, false, false, false, false] rfl rfl (any_of HT_.out (by kernel_rfl)) (fun _ _ _ h => h) (Or.inl ⟨by rfl, ?_⟩) ?_ ?_
        rotate_left
        · intro w'
          go_simp
          with_reducible rfl
        rotate_left
        · simp only [Act.put, List.setIfInBounds_toArray, List.set_cons_zero, List.set_cons_succ, i64_w, i32_w]
          rfl
        refine take_ (i := 15) (N := some 28) (v := ?_) (a' := ?_) #[true, true, true, true, true, true, true, true, true, true, true, true, true, true, true, true, false, false, false] rfl rfl (take_ofW HT_.out HW_.out (by kernel_rfl)) (fun _ _ _ h => h) (Or.inl ⟨by rfl, ?_⟩) hHeld ?_ ?_
        rotate_left
        · rintro w' ⟨s0, s1, s2, s3, s4, s5⟩
          go_simp
          with_reducible rfl
        rotate_left
        · simp only [Act.put, List.setIfInBounds_toArray, List.set_cons_zero, List.set_cons_succ, i64_w, i32_w]
          rfl
        refine one_ (i := 16) (N := some 29) #[true, true, true, true, true, true, true, true, true, true, true, true, true, true, true, true, true, false, false] rfl rfl (one_of HT_.out (by kernel_rfl)) (by decide) (fun K hK => ?_)
        refine goes_ Tryd.func40 (by kernel_rfl) rfl #[.int .i64 ((rd_T32 l0_0 x4_1).f1)] (by rfl) rfl rfl (by (try simp only [List.map_toArray, List.map_cons, List.map_nil]); first | done | rfl | (simp only [List.length_drop, List.length_take]; rfl)) ?_
        with_reducible refine (damperref1_Digits.calls k1 ((rd_T32 l0_0 x4_1).f1) t373 _ A8.out).mono ?_
        rintro e w12 ⟨rfl, hb⟩
        refine ⟨_, rfl, ?_⟩
        replace BK370 := Aside0.mk (blk_below (g := gb370) (pk BK370) hb)
        replace HB := Aside0.mk (below_step (by repeat (first | (with_reducible first | exact HB.out | apply below_alloc | apply pw_below_drewN | apply below_drew1 | refine below_set ?_ GE370.out) | exact HB.out)) hb)
        (try clear hb)
        (try clear hb2)
        (try clear hk)
        (try clear hi)
        refine hK.out _ _ ⟨bc BK370 0, bc BK370 1, ((HB.out.cell (World.block_lt_of_cell? w _ hw371_0)).trans hw371_0), ((HB.out.cell (World.block_lt_of_cell? w _ hw371_1)).trans hw371_1), ((HB.out.cell (World.block_lt_of_cell? w _ hw372_0)).trans hw372_0), ((HB.out.cell (World.block_lt_of_cell? w _ hw372_1)).trans hw372_1)⟩ (fun hHeld => ?_)
        clear hK K
        refine norm_ (a' := ?_) ?_ ?_
        rotate_left
        · show Act.put _ (some 29) _ = _
          simp only [Act.put, List.setIfInBounds_toArray, List.set_cons_zero, List.set_cons_succ, i64_w, i32_w]
          rfl
        refine pure_ (i := 17) (N := some 30) (v := ?_) (a' := ?_) #[true, true, true, true, true, true, true, true, true, true, true, true, true, true, true, true, true, true, false] rfl rfl (any_of HT_.out (by kernel_rfl)) (fun _ _ _ h => h) (Or.inl ⟨by rfl, ?_⟩) ?_ ?_
        rotate_left
        · intro w'
          go_simp
          with_reducible rfl
        rotate_left
        · simp only [Act.put, List.setIfInBounds_toArray, List.set_cons_zero, List.set_cons_succ, i64_w, i32_w]
          rfl
        refine pure_ (i := 18) (N := some 3) (v := ?_) (a' := ?_) #[true, true, true, true, true, true, true, true, true, true, true, true, true, true, true, true, true, true, true] rfl rfl (any_of HT_.out (by kernel_rfl)) (fun _ _ _ h => h) (Or.inl ⟨by rfl, ?_⟩) ?_ ?_
        rotate_left
        · intro w'
          go_simp
          with_reducible rfl
        rotate_left
        · simp only [Act.put, List.setIfInBounds_toArray, List.set_cons_zero, List.set_cons_succ, i64_w, i32_w]
          rfl
        refine done_ (done_of HT_.out (by kernel_rfl)) ?_
        try go_wp2
        go_roundg k1
        case measure => have := HK1.out; omega
        case rel => exact ⟨((((x3_1 ++ (⟨#[32]⟩ : ByteArray)) ++ ((rd_T32 l0_0 x4_1).f0)) ++ (⟨#[58]⟩ : ByteArray)) ++ t373), (wrap64 (x4_1 + 1)), (by first | rfl | (simp; done) | (simp [*]; done)), (by first | rfl | (simp; done) | (simp [*]; done)), H', ⟨by have := HK1.out; omega⟩, ⟨by (with_reducible repeat (first | refine blk_drewN ?_ _ | refine blk_drew ?_ | refine blk_alloc ?_ _)); exact BK370.out⟩, ⟨by repeat (first | (with_reducible first | exact HB.out | apply below_alloc | apply pw_below_drewN | apply below_drew1 | refine below_set ?_ GE370.out) | exact HB.out)⟩⟩
      · rw [if_neg c3] at H
        have c3b0 : decide (x4_1 < (l0_0.length : Int)) = false := decide_eq_false c3
        clear c3
        have H' := Aside0.mk H
        clear H
        have hcz13_0 : wr.cell? ⟨gb370, 0, none⟩ = some (.slice A0_0 l0_0.length c0_0) := bc BK370 0
        have hcz13_1 : wr.cell? ⟨gb370, 1, none⟩ = some (.slice A0_1 l0_1.length c0_1) := bc BK370 1
        have hfz13_0 := blk_frozen BK370.out 0
        have hfz13_1 := blk_frozen BK370.out 1
        go_wp2
        go_loopg [3, 5] k1 (fun kq v3 v5 w' => ∃ (x3_2 : ByteArray) (x5_2 : Int), v3 = .string x3_2 ∧ v5 = .int .i64 x5_2 ∧ Aside0 (damperref5_Text.l1 kq x3_2 x5_2 l0_0 l0_1 = some r) ∧ Aside0 (kq ≤ k1) ∧ Aside0 (w'.heap[gb370]? = some (.cells #[(.slice A0_0 l0_0.length c0_0), (.slice A0_1 l0_1.length c0_1)] 25 (0, 0))) ∧ Aside0 (Below w.heap.size w w'))
        case atStart => exact ⟨(x3_1), (0), (by first | rfl | (simp; done) | (simp [*]; done)), (by first | rfl | (simp; done) | (simp [*]; done)), H', ⟨Nat.le_refl _⟩, ⟨by (with_reducible repeat (first | refine blk_drewN ?_ _ | refine blk_drew ?_ | refine blk_alloc ?_ _)); exact BK370.out⟩, ⟨by repeat (first | (with_reducible first | exact HB.out | apply below_alloc | apply pw_below_drewN | apply below_drew1 | refine below_set ?_ GE370.out) | exact HB.out)⟩⟩
        case round =>
          clear H'
          try clear c2
          try clear p2
          try clear c3
          try clear c3b0
          try clear p3
          try clear q3
          try clear hx3
          try clear c4
          try clear c4b0
          try clear c4b1
          try clear c4b2
          try clear c5
          try clear c5b0
          try clear c6
          try clear c6b0
          try clear c6b1
          try clear c6b2
          try clear p6
          try clear c7
          try clear c7b0
          try clear c7b1
          try clear c7b2
          try clear c9
          try clear c9b0
          try clear c9b1
          try clear c9b2
          try clear hcz10_0
          try clear hcz10_1
          try clear hcz13_0
          try clear hcz13_1
          try clear hfz10_0
          try clear hfz10_1
          try clear hfz13_0
          try clear hfz13_1
          try clear hx371_0
          try clear hx371_1
          try clear hx372_0
          try clear hx372_1
          try clear p2
          try clear p371
          try clear p372
          try clear q371
          try clear q372
          obtain ⟨x3_2, x5_2, rfl, rfl, HA, HK2, BK370, HB⟩ := hrel
          cases gk with
          | zero => exact absurd HA.out (by simp [damperref5_Text.l1])
          | succ k2 =>
            have H := HA.out
            clear HA
            simp only [damperref5_Text.l1] at H
            by_cases c14 : x5_2 < (l0_1.length : Int)
            · rw [if_pos c14] at H
              have c14b0 : decide (x5_2 < (l0_1.length : Int)) = true := decide_eq_true c14
              clear c14
              by_cases c15 : x3_2.size + 1 ≤ 9223372036854775807
              rotate_left
              · rw [if_neg c15] at H
                exact absurd H (by simp)
              rw [if_pos c15] at H
              have c15b0 := eq_true c15
              have c15b1 : decide (x3_2.size + 1 ≤ 9223372036854775807) = true := decide_eq_true c15
              try have c15b2 : (9223372036854775807 < x3_2.size + 1) = False := eq_false (Nat.not_lt.2 c15)
              try (have c15b4 := c15; simp at c15b4; have c15b5 := eq_false (Nat.not_lt.2 c15b4))
              by_cases c16 : 0 ≤ x5_2
              rotate_left
              · rw [if_neg c16] at H
                exact absurd H (by simp)
              rw [if_pos c16] at H
              have c16b0 : decide (0 ≤ x5_2) = true := decide_eq_true c16
              clear c16
              by_cases c17 : (x3_2 ++ (⟨#[32]⟩ : ByteArray)).size + ((rd_T35 l0_1 x5_2).f0).size ≤ 9223372036854775807
              rotate_left
              · rw [if_neg c17] at H
                exact absurd H (by simp)
              rw [if_pos c17] at H
              have c17b0 := eq_true c17
              have c17b1 : decide ((x3_2 ++ (⟨#[32]⟩ : ByteArray)).size + ((rd_T35 l0_1 x5_2).f0).size ≤ 9223372036854775807) = true := decide_eq_true c17
              try have c17b3 : (9223372036854775807 < x3_2.size + 1 + ((rd_T35 l0_1 x5_2).f0).size) = False := eq_false (by have h_ := c17; simp only [ByteArray.size_append] at h_; exact Nat.not_lt.2 h_)
              try have c17b2 : (9223372036854775807 < (x3_2 ++ (⟨#[32]⟩ : ByteArray)).size + ((rd_T35 l0_1 x5_2).f0).size) = False := eq_false (Nat.not_lt.2 c17)
              try (have c17b4 := c17; simp at c17b4; have c17b5 := eq_false (Nat.not_lt.2 c17b4))
              by_cases c18 : ((x3_2 ++ (⟨#[32]⟩ : ByteArray)) ++ ((rd_T35 l0_1 x5_2).f0)).size + 1 ≤ 9223372036854775807
              rotate_left
              · rw [if_neg c18] at H
                exact absurd H (by simp)
              rw [if_pos c18] at H
              have c18b0 := eq_true c18
              have c18b1 : decide (((x3_2 ++ (⟨#[32]⟩ : ByteArray)) ++ ((rd_T35 l0_1 x5_2).f0)).size + 1 ≤ 9223372036854775807) = true := decide_eq_true c18
              try have c18b3 : (9223372036854775807 < x3_2.size + 1 + ((rd_T35 l0_1 x5_2).f0).size + 1) = False := eq_false (by have h_ := c18; simp only [ByteArray.size_append] at h_; exact Nat.not_lt.2 h_)
              try have c18b2 : (9223372036854775807 < ((x3_2 ++ (⟨#[32]⟩ : ByteArray)) ++ ((rd_T35 l0_1 x5_2).f0)).size + 1) = False := eq_false (Nat.not_lt.2 c18)
              try (have c18b4 := c18; simp at c18b4; have c18b5 := eq_false (Nat.not_lt.2 c18b4))
              by_cases c19 : (((x3_2 ++ (⟨#[32]⟩ : ByteArray)) ++ ((rd_T35 l0_1 x5_2).f0)) ++ (⟨#[61]⟩ : ByteArray)).size + ((rd_T35 l0_1 x5_2).f1).size ≤ 9223372036854775807
              rotate_left
              · rw [if_neg c19] at H
                exact absurd H (by simp)
              rw [if_pos c19] at H
              have c19b0 := eq_true c19
              have c19b1 : decide ((((x3_2 ++ (⟨#[32]⟩ : ByteArray)) ++ ((rd_T35 l0_1 x5_2).f0)) ++ (⟨#[61]⟩ : ByteArray)).size + ((rd_T35 l0_1 x5_2).f1).size ≤ 9223372036854775807) = true := decide_eq_true c19
              try have c19b3 : (9223372036854775807 < x3_2.size + 1 + ((rd_T35 l0_1 x5_2).f0).size + 1 + ((rd_T35 l0_1 x5_2).f1).size) = False := eq_false (by have h_ := c19; simp only [ByteArray.size_append] at h_; exact Nat.not_lt.2 h_)
              try have c19b2 : (9223372036854775807 < (((x3_2 ++ (⟨#[32]⟩ : ByteArray)) ++ ((rd_T35 l0_1 x5_2).f0)) ++ (⟨#[61]⟩ : ByteArray)).size + ((rd_T35 l0_1 x5_2).f1).size) = False := eq_false (Nat.not_lt.2 c19)
              try (have c19b4 := c19; simp at c19b4; have c19b5 := eq_false (Nat.not_lt.2 c19b4))
              have H' := Aside0.mk H
              clear H
              have hcz20_0 : wr.cell? ⟨gb370, 0, none⟩ = some (.slice A0_0 l0_0.length c0_0) := bc BK370 0
              have hcz20_1 : wr.cell? ⟨gb370, 1, none⟩ = some (.slice A0_1 l0_1.length c0_1) := bc BK370 1
              have hfz20_0 := blk_frozen BK370.out 0
              have hfz20_1 := blk_frozen BK370.out 1
              try go_wp2
              replace BK370 := Aside0.mk (blk_drew BK370.out)
              replace HB := Aside0.mk (below_drew1 HB.out)
              have p374 : 0 ≤ (x5_2 : Int) := of_decide_eq_true (by first | (with_reducible assumption) | assumption)
              have q374 : x5_2 < (l0_1.length : Int) := of_decide_eq_true (by first | (with_reducible assumption) | assumption)
              obtain ⟨ad374, e374, hx374_0, hx374_1⟩ := at_T35 HR0_1.out x5_2 p374 q374
              have hw374_1 := hx374_1
              have hw374_0 := hx374_0
              cases e374
              replace hx374_0 := (HB.out.cell (World.block_lt_of_cell? w _ hx374_0)).trans hx374_0
              replace hx374_1 := (HB.out.cell (World.block_lt_of_cell? w _ hx374_1)).trans hx374_1
              replace p374 := eq_true p374
              replace q374 := eq_true q374
              have p375 : 0 ≤ (x5_2 : Int) := of_decide_eq_true (by first | (with_reducible assumption) | assumption)
              have q375 : x5_2 < (l0_1.length : Int) := of_decide_eq_true (by first | (with_reducible assumption) | assumption)
              obtain ⟨ad375, e375, hx375_0, hx375_1⟩ := at_T35 HR0_1.out x5_2 p375 q375
              have hw375_1 := hx375_1
              have hw375_0 := hx375_0
              obtain rfl : ad374 = ad375 := (by injection e375)
              replace hx375_0 := (HB.out.cell (World.block_lt_of_cell? w _ hx375_0)).trans hx375_0
              replace hx375_1 := (HB.out.cell (World.block_lt_of_cell? w _ hx375_1)).trans hx375_1
              replace p375 := eq_true p375
              replace q375 := eq_true q375
              refine start_ (n := 18) (S := fun w' => w'.cell? ⟨gb370, 0, none⟩ = some (.slice A0_0 l0_0.length c0_0) ∧ w'.cell? ⟨gb370, 1, none⟩ = some (.slice (some ad374) l0_1.length c0_1) ∧ w'.cell? (ad374.add ((x5_2).toNat * 2)) = some (.string ((rd_T35 l0_1 x5_2).f0)) ∧ w'.cell? ⟨(ad374.add ((x5_2).toNat * 2)).block, (ad374.add ((x5_2).toNat * 2)).off + 1, none⟩ = some (.string ((rd_T35 l0_1 x5_2).f1)) ∧ w'.cell? (ad374.add ((x5_2).toNat * 2)) = some (.string ((rd_T35 l0_1 x5_2).f0)) ∧ w'.cell? ⟨(ad374.add ((x5_2).toNat * 2)).block, (ad374.add ((x5_2).toNat * 2)).off + 1, none⟩ = some (.string ((rd_T35 l0_1 x5_2).f1))) (ds := []) #[false, false, false, false, false, false, false, false, false, false, false, false, false, false, false, false, false, false] (by kernel_rfl) rfl rfl ⟨bc BK370 0, bc BK370 1, ((HB.out.cell (World.block_lt_of_cell? w _ hw374_0)).trans hw374_0), ((HB.out.cell (World.block_lt_of_cell? w _ hw374_1)).trans hw374_1), ((HB.out.cell (World.block_lt_of_cell? w _ hw375_0)).trans hw375_0), ((HB.out.cell (World.block_lt_of_cell? w _ hw375_1)).trans hw375_1)⟩ (fun hHeld => ?_); refine with_tabW damperref5_Text.tab9 damperref5_Text.bits9 (fun HT_ HW_ => ?_)
              generalize wr.drew = w21 at BK370 HB hx374_0 hx374_1 hx375_0 hx375_1 hHeld ⊢
              refine pure_ (i := 0) (N := some 38) (v := ?_) (a' := ?_) #[true, false, false, false, false, false, false, false, false, false, false, false, false, false, false, false, false, false] rfl rfl (any_of HT_.out (by kernel_rfl)) (fun _ _ _ h => h) (Or.inl ⟨by rfl, ?_⟩) ?_ ?_
              rotate_left
              · intro w'
                go_simp
                with_reducible rfl
              rotate_left
              · simp only [Act.put, List.setIfInBounds_toArray, List.set_cons_zero, List.set_cons_succ, i64_w, i32_w]
                rfl
              refine pure_ (i := 1) (N := some 39) (v := ?_) (a' := ?_) #[true, true, false, false, false, false, false, false, false, false, false, false, false, false, false, false, false, false] rfl rfl (any_of HT_.out (by kernel_rfl)) (fun _ _ _ h => h) (Or.inl ⟨by rfl, ?_⟩) ?_ ?_
              rotate_left
              · intro w'
                go_simp
                with_reducible rfl
              rotate_left
              · simp only [Act.put, List.setIfInBounds_toArray, List.set_cons_zero, List.set_cons_succ, i64_w, i32_w]
                rfl
              refine pure_ (i := 2) (N := some 40) (v := ?_) (a' := ?_) #[true, true, true, false, false, false, false, false, false, false, false, false, false, false, false, false, false, false] rfl rfl (any_of HT_.out (by kernel_rfl)) (fun _ _ _ h => h) (Or.inl ⟨by rfl, ?_⟩) ?_ ?_
              rotate_left
              · intro w'
                go_simp
                with_reducible rfl
              rotate_left
              · simp only [Act.put, List.setIfInBounds_toArray, List.set_cons_zero, List.set_cons_succ, i64_w, i32_w]
                rfl
              refine pure_ (i := 4) (N := some 42) (v := ?_) (a' := ?_) #[true, true, true, false, true, false, false, false, false, false, false, false, false, false, false, false, false, false] rfl rfl (any_of HT_.out (by kernel_rfl)) (fun _ _ _ h => h) (Or.inl ⟨by rfl, ?_⟩) ?_ ?_
              rotate_left
              · intro w'
                go_simp
                with_reducible rfl
              rotate_left
              · simp only [Act.put, List.setIfInBounds_toArray, List.set_cons_zero, List.set_cons_succ, i64_w, i32_w]
                rfl
              refine pure_ (i := 10) (N := some 48) (v := ?_) (a' := ?_) #[true, true, true, false, true, false, false, false, false, false, true, false, false, false, false, false, false, false] rfl rfl (any_of HT_.out (by kernel_rfl)) (fun _ _ _ h => h) (Or.inl ⟨by rfl, ?_⟩) ?_ ?_
              rotate_left
              · intro w'
                go_simp
                with_reducible rfl
              rotate_left
              · simp only [Act.put, List.setIfInBounds_toArray, List.set_cons_zero, List.set_cons_succ, i64_w, i32_w]
                rfl
              refine pure_ (i := 12) (N := some 50) (v := ?_) (a' := ?_) #[true, true, true, false, true, false, false, false, false, false, true, false, true, false, false, false, false, false] rfl rfl (any_of HT_.out (by kernel_rfl)) (fun _ _ _ h => h) (Or.inl ⟨by rfl, ?_⟩) ?_ ?_
              rotate_left
              · intro w'
                go_simp
                with_reducible rfl
              rotate_left
              · simp only [Act.put, List.setIfInBounds_toArray, List.set_cons_zero, List.set_cons_succ, i64_w, i32_w]
                rfl
              refine take_ (i := 3) (N := some 41) (v := ?_) (a' := ?_) #[true, true, true, true, true, false, false, false, false, false, true, false, true, false, false, false, false, false] rfl rfl (take_ofW HT_.out HW_.out (by kernel_rfl)) (fun _ _ _ h => h) (Or.inl ⟨by rfl, ?_⟩) hHeld ?_ ?_
              rotate_left
              · rintro w' ⟨s0, s1, s2, s3, s4, s5⟩
                go_simp
                with_reducible rfl
              rotate_left
              · simp only [Act.put, List.setIfInBounds_toArray, List.set_cons_zero, List.set_cons_succ, i64_w, i32_w]
                rfl
              refine pure_ (i := 5) (N := some 43) (v := ?_) (a' := ?_) #[true, true, true, true, true, true, false, false, false, false, true, false, true, false, false, false, false, false] rfl rfl (any_of HT_.out (by kernel_rfl)) (fun _ _ _ h => h) (Or.inl ⟨by rfl, ?_⟩) ?_ ?_
              rotate_left
              · intro w'
                go_simp
                with_reducible rfl
              rotate_left
              · simp only [Act.put, List.setIfInBounds_toArray, List.set_cons_zero, List.set_cons_succ, i64_w, i32_w]
                rfl
              refine pure_ (i := 6) (N := some 44) (v := ?_) (a' := ?_) #[true, true, true, true, true, true, true, false, false, false, true, false, true, false, false, false, false, false] rfl rfl (any_of HT_.out (by kernel_rfl)) (fun _ _ _ h => h) (Or.inl ⟨by rfl, ?_⟩) ?_ ?_
              rotate_left
              · intro w'
                go_simp
                with_reducible rfl
              rotate_left
              · simp only [Act.put, List.setIfInBounds_toArray, List.set_cons_zero, List.set_cons_succ, i64_w, i32_w]
                rfl
              refine take_ (i := 7) (N := some 45) (v := ?_) (a' := ?_) #[true, true, true, true, true, true, true, true, false, false, true, false, true, false, false, false, false, false] rfl rfl (take_ofW HT_.out HW_.out (by kernel_rfl)) (fun _ _ _ h => h) (Or.inl ⟨by rfl, ?_⟩) hHeld ?_ ?_
              rotate_left
              · rintro w' ⟨s0, s1, s2, s3, s4, s5⟩
                go_simp
                with_reducible rfl
              rotate_left
              · simp only [Act.put, List.setIfInBounds_toArray, List.set_cons_zero, List.set_cons_succ, i64_w, i32_w]
                rfl
              refine pure_ (i := 8) (N := some 46) (v := ?_) (a' := ?_) #[true, true, true, true, true, true, true, true, true, false, true, false, true, false, false, false, false, false] rfl rfl (any_of HT_.out (by kernel_rfl)) (fun _ _ _ h => h) (Or.inl ⟨by rfl, ?_⟩) ?_ ?_
              rotate_left
              · intro w'
                go_simp
                with_reducible rfl
              rotate_left
              · simp only [Act.put, List.setIfInBounds_toArray, List.set_cons_zero, List.set_cons_succ, i64_w, i32_w]
                rfl
              refine pure_ (i := 9) (N := some 47) (v := ?_) (a' := ?_) #[true, true, true, true, true, true, true, true, true, true, true, false, true, false, false, false, false, false] rfl rfl (any_of HT_.out (by kernel_rfl)) (fun _ _ _ h => h) (Or.inl ⟨by rfl, ?_⟩) ?_ ?_
              rotate_left
              · intro w'
                go_simp
                with_reducible rfl
              rotate_left
              · simp only [Act.put, List.setIfInBounds_toArray, List.set_cons_zero, List.set_cons_succ, i64_w, i32_w]
                rfl
              refine take_ (i := 11) (N := some 49) (v := ?_) (a' := ?_) #[true, true, true, true, true, true, true, true, true, true, true, true, true, false, false, false, false, false] rfl rfl (take_ofW HT_.out HW_.out (by kernel_rfl)) (fun _ _ _ h => h) (Or.inl ⟨by rfl, ?_⟩) hHeld ?_ ?_
              rotate_left
              · rintro w' ⟨s0, s1, s2, s3, s4, s5⟩
                go_simp
                with_reducible rfl
              rotate_left
              · simp only [Act.put, List.setIfInBounds_toArray, List.set_cons_zero, List.set_cons_succ, i64_w, i32_w]
                rfl
              refine pure_ (i := 13) (N := some 51) (v := ?_) (a' := ?_) #[true, true, true, true, true, true, true, true, true, true, true, true, true, true, false, false, false, false] rfl rfl (any_of HT_.out (by kernel_rfl)) (fun _ _ _ h => h) (Or.inl ⟨by rfl, ?_⟩) ?_ ?_
              rotate_left
              · intro w'
                go_simp
                with_reducible rfl
              rotate_left
              · simp only [Act.put, List.setIfInBounds_toArray, List.set_cons_zero, List.set_cons_succ, i64_w, i32_w]
                rfl
              refine pure_ (i := 14) (N := some 52) (v := ?_) (a' := ?_) #[true, true, true, true, true, true, true, true, true, true, true, true, true, true, true, false, false, false] rfl rfl (any_of HT_.out (by kernel_rfl)) (fun _ _ _ h => h) (Or.inl ⟨by rfl, ?_⟩) ?_ ?_
              rotate_left
              · intro w'
                go_simp
                with_reducible rfl
              rotate_left
              · simp only [Act.put, List.setIfInBounds_toArray, List.set_cons_zero, List.set_cons_succ, i64_w, i32_w]
                rfl
              refine take_ (i := 15) (N := some 53) (v := ?_) (a' := ?_) #[true, true, true, true, true, true, true, true, true, true, true, true, true, true, true, true, false, false] rfl rfl (take_ofW HT_.out HW_.out (by kernel_rfl)) (fun _ _ _ h => h) (Or.inl ⟨by rfl, ?_⟩) hHeld ?_ ?_
              rotate_left
              · rintro w' ⟨s0, s1, s2, s3, s4, s5⟩
                go_simp
                with_reducible rfl
              rotate_left
              · simp only [Act.put, List.setIfInBounds_toArray, List.set_cons_zero, List.set_cons_succ, i64_w, i32_w]
                rfl
              refine pure_ (i := 16) (N := some 54) (v := ?_) (a' := ?_) #[true, true, true, true, true, true, true, true, true, true, true, true, true, true, true, true, true, false] rfl rfl (any_of HT_.out (by kernel_rfl)) (fun _ _ _ h => h) (Or.inl ⟨by rfl, ?_⟩) ?_ ?_
              rotate_left
              · intro w'
                go_simp
                with_reducible rfl
              rotate_left
              · simp only [Act.put, List.setIfInBounds_toArray, List.set_cons_zero, List.set_cons_succ, i64_w, i32_w]
                rfl
              refine pure_ (i := 17) (N := some 3) (v := ?_) (a' := ?_) #[true, true, true, true, true, true, true, true, true, true, true, true, true, true, true, true, true, true] rfl rfl (any_of HT_.out (by kernel_rfl)) (fun _ _ _ h => h) (Or.inl ⟨by rfl, ?_⟩) ?_ ?_
              rotate_left
              · intro w'
                go_simp
                with_reducible rfl
              rotate_left
              · simp only [Act.put, List.setIfInBounds_toArray, List.set_cons_zero, List.set_cons_succ, i64_w, i32_w]
                rfl
              refine done_ (done_of HT_.out (by kernel_rfl)) ?_
              try go_wp2
              go_roundg k2
              case measure => have := HK1.out; have := HK2.out; omega
              case rel => exact ⟨((((x3_2 ++ (⟨#[32]⟩ : ByteArray)) ++ ((rd_T35 l0_1 x5_2).f0)) ++ (⟨#[61]⟩ : ByteArray)) ++ ((rd_T35 l0_1 x5_2).f1)), (wrap64 (x5_2 + 1)), (by first | rfl | (simp; done) | (simp [*]; done)), (by first | rfl | (simp; done) | (simp [*]; done)), H', ⟨by have := HK1.out; have := HK2.out; omega⟩, ⟨by (with_reducible repeat (first | refine blk_drewN ?_ _ | refine blk_drew ?_ | refine blk_alloc ?_ _)); exact BK370.out⟩, ⟨by repeat (first | (with_reducible first | exact HB.out | apply below_alloc | apply pw_below_drewN | apply below_drew1 | refine below_set ?_ GE370.out) | exact HB.out)⟩⟩
            · rw [if_neg c14] at H
              have c14b0 : decide (x5_2 < (l0_1.length : Int)) = false := decide_eq_false c14
              clear c14
              by_cases c22 : x3_2.toList = ([] : List UInt8)
              · rw [if_pos c22] at H
                have c22b0 : (x3_2.toList == ([] : List UInt8)) = true := beq_iff_eq.mpr c22
                have c22b1 : (x3_2.toList != ([] : List UInt8)) = false := bne_eq_false_iff_eq.mpr c22
                clear c22
                obtain rfl := Option.some.inj H
                have hcz23_0 : wr.cell? ⟨gb370, 0, none⟩ = some (.slice A0_0 l0_0.length c0_0) := bc BK370 0
                have hcz23_1 : wr.cell? ⟨gb370, 1, none⟩ = some (.slice A0_1 l0_1.length c0_1) := bc BK370 1
                have hfz23_0 := blk_frozen BK370.out 0
                have hfz23_1 := blk_frozen BK370.out 1
                go_wp2
                go_ret
                exact ⟨by first | rfl | (simp [errW_none, errW_some] <;> rfl) | (simp [*, errW_none, errW_some] <;> rfl), by repeat (first | (with_reducible first | exact HB.out | apply below_alloc | apply pw_below_drewN | apply below_drew1 | refine below_set ?_ GE370.out) | exact HB.out)⟩
              · rw [if_neg c22] at H
                have c22b0 : (x3_2.toList == ([] : List UInt8)) = false := beq_eq_false_iff_ne.mpr c22
                have c22b1 : (x3_2.toList != ([] : List UInt8)) = true := bne_iff_ne.mpr c22
                by_cases c24 : 1 ≤ (x3_2.size : Int)
                rotate_left
                · rw [if_neg c24] at H
                  exact absurd H (by simp)
                rw [if_pos c24] at H
                have c24b0 := eq_true c24
                have c24b1 : decide (1 ≤ (x3_2.size : Int)) = true := decide_eq_true c24
                clear c24
                obtain rfl := Option.some.inj H
                have hcz25_0 : wr.cell? ⟨gb370, 0, none⟩ = some (.slice A0_0 l0_0.length c0_0) := bc BK370 0
                have hcz25_1 : wr.cell? ⟨gb370, 1, none⟩ = some (.slice A0_1 l0_1.length c0_1) := bc BK370 1
                have hfz25_0 := blk_frozen BK370.out 0
                have hfz25_1 := blk_frozen BK370.out 1
                go_wp2
                go_ret
                exact ⟨by first | rfl | (simp [errW_none, errW_some] <;> rfl) | (simp [*, errW_none, errW_some] <;> rfl), by repeat (first | (with_reducible first | exact HB.out | apply below_alloc | apply pw_below_drewN | apply below_drew1 | refine below_set ?_ GE370.out) | exact HB.out)⟩

end Go.Proofs.YtckcimahclpdfaaDoor.Ma
