/- The two iterators over a table's names, and the function that asks whether texts rise: what each call of them answers, for every table. -/
import Derived.RangeFuncNested
import Derived.RangeFuncBox
import Derived.RangeFuncWrites
import Derived.RangeFuncLeaves
import Derived.Shelf.Abstract
import Derived.WalkKit
import Derived.WalkLawsBesides
import Derived.OwnWalkIn
import Derived.TacticsInMore
import Derived.LoopNIn
import Derived.LoopIn
import Derived.Test.YtckcimahclpdfaaDoorWWords
import Derived.Test.YtckcimahclpdfaaDoorProg
namespace Go.Proofs.YtckcimahclpdfaaDoor.Rise
open Go.RowKit Go.Shelf Go.Proofs.YtckcimahclpdfaaDoorW.PrintWords
attribute [local go_sem] Oper.semAt_some
set_option linter.unusedVariables false

theorem take_snoc (xs : List ByteArray) (x : Int) (h0 : 0 ≤ x) (h1 : x < (xs.length : Int)) : xs.take (x + 1).toNat = xs.take x.toNat ++ [xs.getD x.toNat ⟨#[]⟩] := by
  have hn : x.toNat < xs.length := by omega
  rw [show (x + 1).toNat = x.toNat + 1 by omega, List.take_succ_eq_append_getElem hn, List.getD_eq_getElem?_getD, List.getElem?_eq_getElem hn, Option.getD_some]

/-- Does a text rise behind the last; do all. -/
def riseFrom : ByteArray → List ByteArray → Bool
  | _, [] => true
  | last, s :: ss => !(Op.bytesLess s.toList last.toList || s.toList == last.toList) && riseFrom s ss
def rise : List ByteArray → Bool
  | [] => true
  | s :: ss => riseFrom s ss
def lastOf (l : List ByteArray) : ByteArray := l.getLast?.getD ⟨#[]⟩
theorem riseFrom_snoc : ∀ (l : List ByteArray) (a x : ByteArray), riseFrom a (l ++ [x]) = (riseFrom a l && !(Op.bytesLess x.toList (lastOf (a :: l)).toList || x.toList == (lastOf (a :: l)).toList))
  | [], a, x => by simp [riseFrom, lastOf]
  | b :: l, a, x => by
    have e : lastOf (a :: b :: l) = lastOf (b :: l) := by simp [lastOf]
    rw [List.cons_append, riseFrom, riseFrom_snoc l b x, riseFrom, e, Bool.and_assoc]
theorem rise_snoc (l : List ByteArray) (x : ByteArray) : rise (l ++ [x]) = (rise l && (l.isEmpty || !(Op.bytesLess x.toList (lastOf l).toList || x.toList == (lastOf l).toList))) := by
  cases l with
  | nil => simp [rise, riseFrom]
  | cons a l => rw [List.cons_append, rise, rise, riseFrom_snoc]; simp
theorem lastOf_snoc (l : List ByteArray) (x : ByteArray) : lastOf (l ++ [x]) = x := by simp [lastOf]
theorem rise_app : ∀ (m l : List ByteArray), rise l = false → rise (l ++ m) = false
  | [], l, h => by rwa [List.append_nil]
  | x :: m, l, h => by
    rw [show l ++ x :: m = (l ++ [x]) ++ m by simp]
    exact rise_app m _ (by rw [rise_snoc, h]; rfl)

set_option maxRecDepth 100000 in
set_option maxHeartbeats 4000000 in
theorem revs1_in (F : Fence) (n : Nat) (h : F.fn 43) (hro : F.round = none) (hn : 1 ≤ n) (Bs n₀ : Nat) (A : Option Addr) (cap : Nat) (xs : List ByteArray) (ws : List Int) (hm : (xs.length : Int) ≤ 9223372036854775807) (w : World) (hBs : Bs < n₀) (hn0 : n₀ ≤ w.heap.size) (hc : w.cell? ⟨Bs, 0, none⟩ = some (.slice A xs.length cap))
    (hA : ∀ x : Int, 0 ≤ x → x < (xs.length : Int) → ∃ ad, A = some ad ∧ ad.block < n₀ ∧ w.cell? (ad.add (x.toNat * 2)) = some (.string (xs.getD x.toNat ⟨#[]⟩)) ∧ w.cell? ⟨(ad.add (x.toNat * 2)).block, (ad.add (x.toNat * 2)).off + 1, none⟩ = some (.int .i64 (ws.getD x.toNat 0))) :
    SeqStopsK F n Tryd.prog 43 #[.pointer (some ⟨Bs, 0, none⟩)] (fun x : ByteArray => #[Value.string x]) (Below n₀) (fun ys => ys = xs) (fun pre => pre <+: xs) xs.length w := fun l J Jx W hW hJ hJx hY h0 => by
  have hcW := (hW.cell (p := ⟨Bs, 0, none⟩) (Nat.lt_of_lt_of_le hBs hn0)).trans hc
  refine callsIn_of_wp Tryd.func43 rfl h ?_ hro
  simp only [Tryd.ntmps43, List.size_toArray, List.length_cons, List.length_nil, Nat.reduceAdd, Nat.reduceSub, Array.replicate_succ, Array.replicate_zero, List.push_toArray, List.append_toArray, List.nil_append, List.cons_append]
  have HM := Aside0.mk hm
  gi_wp2
  gi_loopw [8] (fun i wr => ∃ x : Int, 0 ≤ x ∧ x ≤ (xs.length : Int) ∧ i = .int .i64 x ∧ Aside0 (J (xs.take x.toNat) wr) ∧ Aside0 (Below n₀ W wr)) (fun i _ => xs.length - (intOf i).toNat)
  case atStart => exact ⟨0, by omega, by omega, rfl, ⟨by simpa using h0⟩, ⟨Below.refl _ _⟩⟩
  case round =>
    obtain ⟨x, hx0, hx1, rfl, HJs, Hnx⟩ := hrel
    by_cases hlt : x < (xs.length : Int)
    · obtain ⟨ad, e, hb, q0, q1⟩ := hA x hx0 hlt
      subst e
      have p0 := (Hnx.out.cell (p := ad.add (x.toNat * 2)) (by rw [add_block]; exact hb)).trans ((hW.cell (p := ad.add (x.toNat * 2)) (by rw [add_block]; omega)).trans q0)
      have p1 := (Hnx.out.cell (p := ⟨(ad.add (x.toNat * 2)).block, (ad.add (x.toNat * 2)).off + 1, none⟩) (by show (ad.add _).block < _; rw [add_block]; exact hb)).trans ((hW.cell (p := ⟨(ad.add (x.toNat * 2)).block, (ad.add (x.toNat * 2)).off + 1, none⟩) (by show (ad.add _).block < _; rw [add_block]; omega)).trans q1)
      have hxt := take_snoc xs x hx0 hlt
      clear q0 q1
      generalize xs.getD x.toNat ⟨#[]⟩ = s at p0 hxt
      generalize ws.getD x.toNat 0 = u at p1
      have HX := Aside0.mk hxt
      clear hxt
      have hJa := hJ _ _ (wr.alloc (.cells #[.string s, .int .i64 u] 32)) none HJs.out (World.grownBy_alloc wr _ none) (fun r e => by cases e)
      obtain ⟨fn, tmps, assign, body, hy, hR⟩ := hY _ s _ hJa (by rw [List.length_take]; omega)
      clear hJa
      have hx2 : wrap64 (x + 1) = x + 1 := by have := HM.out; unfold wrap64; omega
      have hx3 := eq_true hx0
      have hx4 := eq_true hlt
      have hdec : decide (x < (xs.length : Int)) = true := decide_eq_true hlt
      (try dsimp only at hy)
      gi_wp2
      refine hR.mono ?_
      rintro e W3 (⟨rfl, hJ3, hk3⟩ | ⟨rfl, hJx3⟩)
      · have HJ3 := Aside0.mk hJ3
        have Hk3 := Aside0.mk hk3
        clear hJ3 hk3
        gi_wp2
        go_roundw
        case rel => exact ⟨x + 1, by omega, by omega, by first | rfl | rw [hx2], ⟨by rw [HX.out]; exact HJ3.out⟩, ⟨(Hnx.out.alloc (by have := hW.size; have := Hnx.out.size; omega) _).trans Hk3.out⟩⟩
        case measure => simp [intOf]; omega
      · have HJx3 := Aside0.mk hJx3
        clear hJx3
        gi_wp2
        refine bodyPost_ret (results_none rfl _ _ _) rfl ?_
        exact ⟨⟨_, rfl⟩, .inr ⟨_, by rw [← HX.out]; exact List.take_prefix _ _, HJx3.out⟩⟩
    · have hdec : decide (x < (xs.length : Int)) = false := decide_eq_false hlt
      have hdec2 := eq_false hlt
      gi_wp2
      go_end0
      exact ⟨⟨_, rfl⟩, .inl (by have h_ := HJs.out; rwa [List.take_of_length_le (by omega)] at h_)⟩
set_option maxRecDepth 100000 in
set_option maxHeartbeats 4000000 in
theorem tags1_in (F : Fence) (n : Nat) (h : F.fn 44) (hro : F.round = none) (hn : 1 ≤ n) (Bs n₀ : Nat) (A : Option Addr) (cap : Nat) (xs : List ByteArray) (ws : List ByteArray) (hm : (xs.length : Int) ≤ 9223372036854775807) (w : World) (hBs : Bs < n₀) (hn0 : n₀ ≤ w.heap.size) (hc : w.cell? ⟨Bs, 1, none⟩ = some (.slice A xs.length cap))
    (hA : ∀ x : Int, 0 ≤ x → x < (xs.length : Int) → ∃ ad, A = some ad ∧ ad.block < n₀ ∧ w.cell? (ad.add (x.toNat * 2)) = some (.string (xs.getD x.toNat ⟨#[]⟩)) ∧ w.cell? ⟨(ad.add (x.toNat * 2)).block, (ad.add (x.toNat * 2)).off + 1, none⟩ = some (.string (ws.getD x.toNat ⟨#[]⟩))) :
    SeqStopsK F n Tryd.prog 44 #[.pointer (some ⟨Bs, 0, none⟩)] (fun x : ByteArray => #[Value.string x]) (Below n₀) (fun ys => ys = xs) (fun pre => pre <+: xs) xs.length w := fun l J Jx W hW hJ hJx hY h0 => by
  have hcW := (hW.cell (p := ⟨Bs, 1, none⟩) (Nat.lt_of_lt_of_le hBs hn0)).trans hc
  refine callsIn_of_wp Tryd.func44 rfl h ?_ hro
  simp only [Tryd.ntmps44, List.size_toArray, List.length_cons, List.length_nil, Nat.reduceAdd, Nat.reduceSub, Array.replicate_succ, Array.replicate_zero, List.push_toArray, List.append_toArray, List.nil_append, List.cons_append]
  have HM := Aside0.mk hm
  gi_wp2
  gi_loopw [8] (fun i wr => ∃ x : Int, 0 ≤ x ∧ x ≤ (xs.length : Int) ∧ i = .int .i64 x ∧ Aside0 (J (xs.take x.toNat) wr) ∧ Aside0 (Below n₀ W wr)) (fun i _ => xs.length - (intOf i).toNat)
  case atStart => exact ⟨0, by omega, by omega, rfl, ⟨by simpa using h0⟩, ⟨Below.refl _ _⟩⟩
  case round =>
    obtain ⟨x, hx0, hx1, rfl, HJs, Hnx⟩ := hrel
    by_cases hlt : x < (xs.length : Int)
    · obtain ⟨ad, e, hb, q0, q1⟩ := hA x hx0 hlt
      subst e
      have p0 := (Hnx.out.cell (p := ad.add (x.toNat * 2)) (by rw [add_block]; exact hb)).trans ((hW.cell (p := ad.add (x.toNat * 2)) (by rw [add_block]; omega)).trans q0)
      have p1 := (Hnx.out.cell (p := ⟨(ad.add (x.toNat * 2)).block, (ad.add (x.toNat * 2)).off + 1, none⟩) (by show (ad.add _).block < _; rw [add_block]; exact hb)).trans ((hW.cell (p := ⟨(ad.add (x.toNat * 2)).block, (ad.add (x.toNat * 2)).off + 1, none⟩) (by show (ad.add _).block < _; rw [add_block]; omega)).trans q1)
      have hxt := take_snoc xs x hx0 hlt
      clear q0 q1
      generalize xs.getD x.toNat ⟨#[]⟩ = s at p0 hxt
      generalize ws.getD x.toNat ⟨#[]⟩ = u at p1
      have HX := Aside0.mk hxt
      clear hxt
      have hJa := hJ _ _ (wr.alloc (.cells #[.string s, .string u] 35)) none HJs.out (World.grownBy_alloc wr _ none) (fun r e => by cases e)
      obtain ⟨fn, tmps, assign, body, hy, hR⟩ := hY _ s _ hJa (by rw [List.length_take]; omega)
      clear hJa
      have hx2 : wrap64 (x + 1) = x + 1 := by have := HM.out; unfold wrap64; omega
      have hx3 := eq_true hx0
      have hx4 := eq_true hlt
      have hdec : decide (x < (xs.length : Int)) = true := decide_eq_true hlt
      (try dsimp only at hy)
      gi_wp2
      refine hR.mono ?_
      rintro e W3 (⟨rfl, hJ3, hk3⟩ | ⟨rfl, hJx3⟩)
      · have HJ3 := Aside0.mk hJ3
        have Hk3 := Aside0.mk hk3
        clear hJ3 hk3
        gi_wp2
        go_roundw
        case rel => exact ⟨x + 1, by omega, by omega, by first | rfl | rw [hx2], ⟨by rw [HX.out]; exact HJ3.out⟩, ⟨(Hnx.out.alloc (by have := hW.size; have := Hnx.out.size; omega) _).trans Hk3.out⟩⟩
        case measure => simp [intOf]; omega
      · have HJx3 := Aside0.mk hJx3
        clear hJx3
        gi_wp2
        refine bodyPost_ret (results_none rfl _ _ _) rfl ?_
        exact ⟨⟨_, rfl⟩, .inr ⟨_, by rw [← HX.out]; exact List.take_prefix _ _, HJx3.out⟩⟩
    · have hdec : decide (x < (xs.length : Int)) = false := decide_eq_false hlt
      have hdec2 := eq_false hlt
      gi_wp2
      go_end0
      exact ⟨⟨_, rfl⟩, .inl (by have h_ := HJs.out; rwa [List.take_of_length_le (by omega)] at h_)⟩
/-- What an iterator over a table's names must be for 'rising'. -/
def Names (F : Fence) (n : Nat) (gf Bs n₀ : Nat) (xs : List ByteArray) (w : World) : Prop :=
  SeqStopsK F n Tryd.prog gf #[.pointer (some ⟨Bs, 0, none⟩)] (fun x : ByteArray => #[Value.string x]) (Below n₀) (fun ys => ys = xs) (fun pre => pre <+: xs) xs.length w

set_option maxRecDepth 100000 in
set_option maxHeartbeats 4000000 in
theorem rising_in (F : Fence) (n : Nat) (hf : F.fn 28) (gf : Nat) (hgf : F.fn gf) (eg : ∀ args w, (callFunc gf args).run Tryd.prog w = .ok (.enter gf args) w) (hro : F.round = none) (hn : 3 ≤ n) (Bs : Nat) (xs : List ByteArray) (w : World) (hseq : Names F (n - 1) gf Bs w.heap.size xs w) :
    CallsIn F n Tryd.prog 28 #[.func (.func gf) #[] #[.pointer (some ⟨Bs, 0, none⟩)]] w fun e W' => e = .returned (.bool (rise xs)) ∧ Below w.heap.size w W' := by
  have h1 : 1 ≤ n := by omega
  refine callsIn_of_wp_marks Tryd.func28 rfl hf ?_ hro
  simp only [Tryd.ntmps28, List.size_toArray, List.length_cons, List.length_nil, Nat.reduceAdd, Nat.reduceSub, Array.replicate_succ, Array.replicate_zero, List.push_toArray, List.append_toArray, List.nil_append, List.cons_append]
  gi_wp2
  have bR := Boxed.new w 4 (.bool false)
  have bL := Boxed.new (w.alloc (.cells #[.bool false] 4)) 9 (.string ⟨#[]⟩)
  have bF := Boxed.new ((w.alloc (.cells #[.bool false] 4)).alloc (.cells #[.string ⟨#[]⟩] 9)) 4 (.bool true)
  rw [World.size_alloc] at bL
  rw [World.size_alloc, World.size_alloc] at bF
  have hB0 : Below w.heap.size w (((w.alloc (.cells #[.bool false] 4)).alloc (.cells #[.string ⟨#[]⟩] 9)).alloc (.cells #[.bool true] 4)) := (((Below.refl _ w).alloc (Nat.le_refl _) _).alloc (by simp) _).alloc (by simp; omega) _
  refine wpIn_rangeFunc_ownF hro h1 (gf := gf) (lb := #[.pointer (some ⟨Bs, 0, none⟩)]) rfl hgf eg
    hseq belowK_t (belowK_b (by simp; omega)) hB0 (fun _ => rfl)
    (fun pre W => (rise pre = true ∧ (W.cell? ⟨w.heap.size, 0, none⟩ = some (.bool false) ∧ W.frozen? ⟨w.heap.size, 0, none⟩ = false) ∧ (W.cell? ⟨w.heap.size + 1, 0, none⟩ = some (.string (lastOf pre)) ∧ W.frozen? ⟨w.heap.size + 1, 0, none⟩ = false) ∧ (W.cell? ⟨w.heap.size + 1 + 1, 0, none⟩ = some (.bool pre.isEmpty) ∧ W.frozen? ⟨w.heap.size + 1 + 1, 0, none⟩ = false)) ∧ Below w.heap.size w W)
    (fun c pre W => (c = .ret ∧ rise pre = false ∧ W.cell? ⟨w.heap.size, 0, none⟩ = some (.bool false)) ∧ Below w.heap.size w W)
    (OwnFrom.and (Own.from (fun s A B row hs hg hr => ⟨hs.1, ⟨cell_kept hs.2.1.1 hg hr, (frozen_kept hs.2.1.1 hg hr).trans hs.2.1.2⟩, ⟨cell_kept hs.2.2.1.1 hg hr, (frozen_kept hs.2.2.1.1 hg hr).trans hs.2.2.1.2⟩, ⟨cell_kept hs.2.2.2.1 hg hr, (frozen_kept hs.2.2.2.1 hg hr).trans hs.2.2.2.2⟩⟩) _) (ownFrom_below (Nat.le_refl _) (by simp; omega)))
    (fun c => OwnFrom.and (Own.from (fun s A B row hs hg hr => ⟨hs.1, hs.2.1, cell_kept hs.2.2 hg hr⟩) _) (ownFrom_below (Nat.le_refl _) (by simp; omega)))
    ⟨⟨rfl, ⟨((bR.alloc _).alloc _).cell, ((bR.alloc _).alloc _).frozen⟩, ⟨(bL.alloc _).cell, (bL.alloc _).frozen⟩, ⟨bF.cell, bF.frozen⟩⟩, hB0⟩
    (fun x => { tmps := #[.func (.func gf) #[] #[.pointer (some ⟨Bs, 0, none⟩)], undef, .pointer (some ⟨w.heap.size, 0, none⟩), .pointer (some ⟨w.heap.size + 1, 0, none⟩), .pointer (some ⟨w.heap.size + 1 + 1, 0, none⟩), .string x, .func (.func gf) #[] #[.pointer (some ⟨Bs, 0, none⟩)], .string x, undef, undef, undef, undef, undef, undef, undef, undef], defers := [] }) ?assign ?body ?done ?stop
  case assign =>
    intro l x W K hK
    gi_wp2
    exact hK
  case body =>
    rintro l pre x W ⟨⟨hp, ⟨hcr, hfr⟩, ⟨hcl, hfl⟩, ⟨hcf, hff⟩⟩, hB⟩ _
    have HP := Aside0.mk hp
    have HB := Aside0.mk hB
    have n1 : w.heap.size + 1 ≠ w.heap.size + 1 + 1 := by omega
    obtain ⟨b1, hb1⟩ : ∃ b : Bool, Op.bytesLess x.toList (lastOf pre).toList = b := ⟨_, rfl⟩
    obtain ⟨b2, hb2⟩ : ∃ b : Bool, (x.toList == (lastOf pre).toList) = b := ⟨_, rfl⟩
    have hs := rise_snoc pre x
    rw [hp, Bool.true_and, hb1, hb2] at hs
    have hl := lastOf_snoc pre x
    have hne : (pre ++ [x]).isEmpty = false := by cases pre <;> rfl
    generalize hl0 : lastOf pre = la at hcl hb1 hb2
    generalize he : pre.isEmpty = em at hcf hs
    have HS := Aside0.mk hs
    have HL := Aside0.mk hl
    have HN := Aside0.mk hne
    have F1 := Aside0.mk hfr
    have F2 := Aside0.mk hfl
    have F3 := Aside0.mk hff
    have CR := Aside0.mk hcr
    have CL := Aside0.mk hcl
    have CF := Aside0.mk hcf
    clear hp hB hs hl hne hl0 he
    have go_on : rise (pre ++ [x]) = true → ∀ W', W' = (W.setCell ⟨w.heap.size + 1, 0, none⟩ (.string x)).setCell ⟨w.heap.size + 1 + 1, 0, none⟩ (.bool false) →
        KeepsOthers W W' ∧ Below w.heap.size W W' ∧ (rise (pre ++ [x]) = true ∧ (W'.cell? ⟨w.heap.size, 0, none⟩ = some (.bool false) ∧ W'.frozen? ⟨w.heap.size, 0, none⟩ = false) ∧ (W'.cell? ⟨w.heap.size + 1, 0, none⟩ = some (.string (lastOf (pre ++ [x]))) ∧ W'.frozen? ⟨w.heap.size + 1, 0, none⟩ = false) ∧ (W'.cell? ⟨w.heap.size + 1 + 1, 0, none⟩ = some (.bool (pre ++ [x]).isEmpty) ∧ W'.frozen? ⟨w.heap.size + 1 + 1, 0, none⟩ = false)) ∧ Below w.heap.size w W' := by
      rintro hr W' rfl
      have hB1 : Below w.heap.size W ((W.setCell ⟨w.heap.size + 1, 0, none⟩ (.string x)).setCell ⟨w.heap.size + 1 + 1, 0, none⟩ (.bool false)) := ((Below.refl w.heap.size W).setCell (p := ⟨w.heap.size + 1, 0, none⟩) (by simp) _).setCell (p := ⟨w.heap.size + 1 + 1, 0, none⟩) (by simp; omega) _
      have q1 : (W.setCell ⟨w.heap.size + 1, 0, none⟩ (.string x)).cell? ⟨w.heap.size + 1 + 1, 0, none⟩ = some (.bool em) := (World.cell?_setCell_other W ⟨w.heap.size + 1, 0, none⟩ ⟨w.heap.size + 1 + 1, 0, none⟩ _ (by simp)).trans CF.out
      refine ⟨(KeepsOthers.setCell _ _ _).trans (KeepsOthers.setCell _ _ _), hB1, ⟨hr, ⟨?_, ?_⟩, ⟨?_, ?_⟩, ⟨?_, ?_⟩⟩, HB.out.trans hB1⟩
      · rw [World.cell?_setCell_other _ _ _ _ (by simp <;> omega), World.cell?_setCell_other _ _ _ _ (by simp)]; exact CR.out
      · rw [World.frozen?_setCell, World.frozen?_setCell]; exact F1.out
      · rw [World.cell?_setCell_other _ _ _ _ (by simp), HL.out]; exact World.cell?_setCell_same' _ _ _ (by rw [CL.out]; rfl)
      · rw [World.frozen?_setCell, World.frozen?_setCell]; exact F2.out
      · rw [HN.out]; exact World.cell?_setCell_same' _ _ _ (by rw [q1]; rfl)
      · rw [World.frozen?_setCell, World.frozen?_setCell]; exact F3.out
    have leave : rise (pre ++ [x]) = false → ∀ W', W' = W.setCell ⟨w.heap.size, 0, none⟩ (.bool false) → KeepsOthers W W' ∧ (rise (pre ++ [x]) = false ∧ W'.cell? ⟨w.heap.size, 0, none⟩ = some (.bool false)) ∧ Below w.heap.size w W' := by
      rintro hr W' rfl
      exact ⟨KeepsOthers.setCell _ _ _, ⟨hr, World.cell?_setCell_same' _ _ _ (by rw [CR.out]; rfl)⟩, HB.out.setCell (p := ⟨w.heap.size, 0, none⟩) (Nat.le_refl _) _⟩
    have GO := Aside0.mk go_on
    have LV := Aside0.mk leave
    clear go_on leave
    cases em with
    | true =>
      clear hb1 hb2
      gi_wp2
      exact GO.out (by rw [HS.out]; rfl) _ rfl
    | false =>
      cases b1 with
      | true =>
        clear hb2
        gi_wp2
        have h_ := LV.out (by rw [HS.out]; rfl) _ rfl
        exact ⟨h_.1, ⟨rfl, h_.2.1⟩, h_.2.2⟩
      | false =>
        cases b2 with
        | true =>
          gi_wp2
          have h_ := LV.out (by rw [HS.out]; rfl) _ rfl
          exact ⟨h_.1, ⟨rfl, h_.2.1⟩, h_.2.2⟩
        | false =>
          gi_wp2
          exact GO.out (by rw [HS.out]; rfl) _ rfl
  case done =>
    rintro D ys W hD rfl ⟨⟨hp, ⟨hcr, hfr⟩, _, _⟩, hB⟩ hK
    gi_wp2
    have hK' := (KeepsOthers.setCell W ⟨w.heap.size, 0, none⟩ (.bool true)).same D _ hK rfl
    refine ⟨by simp, .inl ⟨_, _, rfl, run_takeDeferred hK', ?_⟩⟩
    have hc5 := cell_kept (World.cell?_setCell_same' W ⟨w.heap.size, 0, none⟩ (.bool true) (by rw [hcr]; rfl)) (grownBy_putObj' _ D (.deferred none)) (fun r e => by cases e; exact ⟨_, hK', rfl⟩)
    refine ⟨.bool true, ?_, by rw [hp], (hB.setCell (p := ⟨w.heap.size, 0, none⟩) (Nat.le_refl _) _).trans (belowK_b (w := w) (Nat.le_refl _) _ D _ _ (by simp at hD; omega) hK' rfl rfl)⟩
    simp [results, Tryd.f28, go_sem, hc5]
  case stop =>
    rintro D c pre W hD ⟨m, rfl⟩ ⟨⟨rfl, hp, hcr⟩, hB⟩ hK
    gi_wp2
    refine ⟨by simp, .inl ⟨_, _, rfl, run_takeDeferred hK, ?_⟩⟩
    have hc5 := cell_kept hcr (grownBy_putObj' _ D (.deferred none)) (fun r e => by cases e; exact ⟨_, hK, rfl⟩)
    refine ⟨.bool false, ?_, by rw [rise_app m pre hp], hB.trans (belowK_b (w := w) (Nat.le_refl _) W D _ _ (by simp at hD; omega) hK rfl rfl)⟩
    simp [results, Tryd.f28, go_sem, hc5]
end Go.Proofs.YtckcimahclpdfaaDoor.Rise
