-- Written by a program of this session (wip/tools/myprint.py), in the form of the kit's print. Not trusted: Lean checks it.
import Derived.Test.YthdpnbfjpbiieaaDoorMax0
import Derived.Test.YthdpnbfjpbiieaaDoorMax4
import Derived.Test.YthdpnbfjpbiieaaDoorMax14
namespace Go.Proofs.YthdpnbfjpbiieaaDoor.Ma
open Go.RowKit Go.Proofs.YthdpnbfjpbiieaaDoorW.PrintWords Go.Proofs.YthdpnbfjpbiieaaDoorW.PrintLast Go.Proofs.YthdpnbfjpbiieaaDoorW.PrintMore
attribute [local go_sem] max2_int min2_int max_two min_two max_three min_three max_four min_four   -- for this text's walks alone
set_option linter.unusedVariables false
set_option linter.unusedSimpArgs false

/-! ### damperlaw2_SpecEdges: function 8 -/
def damperlaw2_SpecEdges.j0 : Nat → ByteArray → Int → Int → Int → Int → Int → ByteArray → Int → Int → Int → Int → Int → Option (Bool)
  | 0, _, _, _, _, _, _, _, _, _, _, _, _ => none
  | k + 1, x395000, x395001, x395002, x395003, x395004, x395005, x396000, x396001, x396002, x396003, x396004, x396005 => (spec_Config.f k x395000 x395001 x395002 x395003 x395004 x395005).bind fun t396 => (if t396 = 0 then ((spec_Config.f k x396000 x396001 x396002 x396003 x396004 x396005).bind fun t397 => (some (t397 == 2))) else (some false))
def damperlaw2_SpecEdges.f (k : Nat) (a0 : Int) (a1_0 : ByteArray) (a1_1 : Int) (a1_2 : Int) (a1_3 : Int) (a1_4 : Int) (a1_5 : Int) : Option (Bool) := (damperlaw2_known.f k).bind fun t387 => (if t387 = true then ((damperlaw2_Config.f a1_0 a1_1 a1_2 a1_3 a1_4 a1_5 0).bind fun bt388 => (if (wi a0 6) = 0 then (damperlaw2_SpecEdges.j0 k bt388.1 bt388.2.1 8 bt388.2.2.2.1 bt388.2.2.2.2.1 bt388.2.2.2.2.2 bt388.1 bt388.2.1 9 bt388.2.2.2.1 bt388.2.2.2.2.1 bt388.2.2.2.2.2) else (if (wi a0 6) = 1 then (damperlaw2_SpecEdges.j0 k bt388.1 bt388.2.1 1 bt388.2.2.2.1 bt388.2.2.2.2.1 bt388.2.2.2.2.2 bt388.1 bt388.2.1 0 bt388.2.2.2.1 bt388.2.2.2.2.1 bt388.2.2.2.2.2) else (if (wi a0 6) = 2 then (damperlaw2_SpecEdges.j0 k bt388.1 bt388.2.1 bt388.2.2.1 bt388.2.2.2.1 10 bt388.2.2.2.2.2 bt388.1 bt388.2.1 bt388.2.2.1 bt388.2.2.2.1 11 bt388.2.2.2.2.2) else (if (wi a0 6) = 3 then (damperlaw2_SpecEdges.j0 k bt388.1 bt388.2.1 bt388.2.2.1 bt388.2.2.2.2.1 bt388.2.2.2.2.1 bt388.2.2.2.2.2 bt388.1 bt388.2.1 bt388.2.2.1 (wrap64 (bt388.2.2.2.2.1 + 1)) bt388.2.2.2.2.1 bt388.2.2.2.2.2) else (if (wi a0 6) = 4 then (damperlaw2_SpecEdges.j0 k bt388.1 bt388.2.1 bt388.2.2.1 bt388.2.2.2.1 bt388.2.2.2.2.1 30 bt388.1 bt388.2.1 bt388.2.2.1 bt388.2.2.2.1 bt388.2.2.2.2.1 31) else (if (wi a0 6) = 5 then (damperlaw2_SpecEdges.j0 k bt388.1 255 bt388.2.2.1 bt388.2.2.2.1 bt388.2.2.2.2.1 bt388.2.2.2.2.2 bt388.1 256 bt388.2.2.1 bt388.2.2.2.1 bt388.2.2.2.2.1 bt388.2.2.2.2.2) else (damperlaw2_SpecEdges.j0 k bt388.1 bt388.2.1 bt388.2.2.1 bt388.2.2.2.1 bt388.2.2.2.2.1 bt388.2.2.2.2.2 bt388.1 bt388.2.1 bt388.2.2.1 bt388.2.2.2.1 bt388.2.2.2.2.1 bt388.2.2.2.2.2)))))))) else (some false))
theorem damperlaw2_SpecEdges.mono_l : ∀ k, (∀ y0 y1 y2 y3 y4 y5 y6 y7 y8 y9 y10 y11, LeO (damperlaw2_SpecEdges.j0 k y0 y1 y2 y3 y4 y5 y6 y7 y8 y9 y10 y11) (damperlaw2_SpecEdges.j0 (k + 1) y0 y1 y2 y3 y4 y5 y6 y7 y8 y9 y10 y11))
  | 0 => fun _ _ _ _ _ _ _ _ _ _ _ _ r h => by simp [damperlaw2_SpecEdges.j0] at h
  | k + 1 => by
    have ih0 := damperlaw2_SpecEdges.mono_l k
    · intro y0 y1 y2 y3 y4 y5 y6 y7 y8 y9 y10 y11
      unfold damperlaw2_SpecEdges.j0
      repeat' first
      | (with_reducible exact ih0 _ _ _ _ _ _ _ _ _ _ _ _)
      | (with_reducible exact damperlaw2_known.mono _)
      | (with_reducible exact spec_Config.mono _ _ _ _ _ _ _)
      | (with_reducible exact LeO.refl _)
      | (with_reducible exact LeO.none _)
      | (with_reducible refine LeO.ite ?_ ?_)
      | (with_reducible refine LeO.bind ?_ (fun _ => ?_))
      | exact ih0 _ _ _ _ _ _ _ _ _ _ _ _
      | exact damperlaw2_known.mono _
      | exact spec_Config.mono _ _ _ _ _ _ _
      | exact LeO.none _
      | refine LeO.ite ?_ ?_
      | refine LeO.bind ?_ (fun _ => ?_)
theorem damperlaw2_SpecEdges.mono : ∀ a0 a1 a2 a3 a4 a5 a6 k, LeO (damperlaw2_SpecEdges.f k a0 a1 a2 a3 a4 a5 a6) (damperlaw2_SpecEdges.f (k + 1) a0 a1 a2 a3 a4 a5 a6) := by
  intro a0 a1 a2 a3 a4 a5 a6 k
  have ih0 := damperlaw2_SpecEdges.mono_l k
  unfold damperlaw2_SpecEdges.f
  repeat' first
      | (with_reducible exact ih0 _ _ _ _ _ _ _ _ _ _ _ _)
      | (with_reducible exact damperlaw2_known.mono _)
      | (with_reducible exact spec_Config.mono _ _ _ _ _ _ _)
      | (with_reducible exact LeO.refl _)
      | (with_reducible exact LeO.none _)
      | (with_reducible refine LeO.ite ?_ ?_)
      | (with_reducible refine LeO.bind ?_ (fun _ => ?_))
      | exact ih0 _ _ _ _ _ _ _ _ _ _ _ _
      | exact damperlaw2_known.mono _
      | exact spec_Config.mono _ _ _ _ _ _ _
      | exact LeO.none _
      | refine LeO.ite ?_ ?_
      | refine LeO.bind ?_ (fun _ => ?_)
set_option maxHeartbeats 8000000 in
set_option maxRecDepth 100000 in
theorem damperlaw2_SpecEdges.calls (k : Nat) (a0 : Int) (a1_0 : ByteArray) (a1_1 : Int) (a1_2 : Int) (a1_3 : Int) (a1_4 : Int) (a1_5 : Int) (r : Bool) (w : World) (hLd_ : Aside0 (LaidW w)) (hr0_ : Aside0 (r = true)) (h : damperlaw2_SpecEdges.f k a0 a1_0 a1_1 a1_2 a1_3 a1_4 a1_5 = some r) :
    Calls Tryd.prog 8 #[.int .i64 a0, .agg #[.string a1_0, .int .i64 a1_1, .int .i64 a1_2, .int .i64 a1_3, .int .i64 a1_4, .int .i64 a1_5]] w fun e w' => e = .returned (.bool r) ∧ Below w.heap.size w w' := by
  have hu23 := Tryd.underlying23
  have HB := Aside0.mk (Below.refl w.heap.size w)
  have H : ((damperlaw2_known.f k).bind fun t387 => (if t387 = true then ((damperlaw2_Config.f a1_0 a1_1 a1_2 a1_3 a1_4 a1_5 0).bind fun bt388 => (if (wi a0 6) = 0 then (damperlaw2_SpecEdges.j0 k bt388.1 bt388.2.1 8 bt388.2.2.2.1 bt388.2.2.2.2.1 bt388.2.2.2.2.2 bt388.1 bt388.2.1 9 bt388.2.2.2.1 bt388.2.2.2.2.1 bt388.2.2.2.2.2) else (if (wi a0 6) = 1 then (damperlaw2_SpecEdges.j0 k bt388.1 bt388.2.1 1 bt388.2.2.2.1 bt388.2.2.2.2.1 bt388.2.2.2.2.2 bt388.1 bt388.2.1 0 bt388.2.2.2.1 bt388.2.2.2.2.1 bt388.2.2.2.2.2) else (if (wi a0 6) = 2 then (damperlaw2_SpecEdges.j0 k bt388.1 bt388.2.1 bt388.2.2.1 bt388.2.2.2.1 10 bt388.2.2.2.2.2 bt388.1 bt388.2.1 bt388.2.2.1 bt388.2.2.2.1 11 bt388.2.2.2.2.2) else (if (wi a0 6) = 3 then (damperlaw2_SpecEdges.j0 k bt388.1 bt388.2.1 bt388.2.2.1 bt388.2.2.2.2.1 bt388.2.2.2.2.1 bt388.2.2.2.2.2 bt388.1 bt388.2.1 bt388.2.2.1 (wrap64 (bt388.2.2.2.2.1 + 1)) bt388.2.2.2.2.1 bt388.2.2.2.2.2) else (if (wi a0 6) = 4 then (damperlaw2_SpecEdges.j0 k bt388.1 bt388.2.1 bt388.2.2.1 bt388.2.2.2.1 bt388.2.2.2.2.1 30 bt388.1 bt388.2.1 bt388.2.2.1 bt388.2.2.2.1 bt388.2.2.2.2.1 31) else (if (wi a0 6) = 5 then (damperlaw2_SpecEdges.j0 k bt388.1 255 bt388.2.2.1 bt388.2.2.2.1 bt388.2.2.2.2.1 bt388.2.2.2.2.2 bt388.1 256 bt388.2.2.1 bt388.2.2.2.1 bt388.2.2.2.2.1 bt388.2.2.2.2.2) else (damperlaw2_SpecEdges.j0 k bt388.1 bt388.2.1 bt388.2.2.1 bt388.2.2.2.1 bt388.2.2.2.2.1 bt388.2.2.2.2.2 bt388.1 bt388.2.1 bt388.2.2.1 bt388.2.2.2.1 bt388.2.2.2.2.1 bt388.2.2.2.2.2)))))))) else (some false))) = some r := h
  clear h
  replace H := Option.bind_eq_some_iff.mp H
  obtain ⟨t387, A30, H⟩ := H
  replace H : (if t387 = true then ((damperlaw2_Config.f a1_0 a1_1 a1_2 a1_3 a1_4 a1_5 0).bind fun bt388 => (if (wi a0 6) = 0 then (damperlaw2_SpecEdges.j0 k bt388.1 bt388.2.1 8 bt388.2.2.2.1 bt388.2.2.2.2.1 bt388.2.2.2.2.2 bt388.1 bt388.2.1 9 bt388.2.2.2.1 bt388.2.2.2.2.1 bt388.2.2.2.2.2) else (if (wi a0 6) = 1 then (damperlaw2_SpecEdges.j0 k bt388.1 bt388.2.1 1 bt388.2.2.2.1 bt388.2.2.2.2.1 bt388.2.2.2.2.2 bt388.1 bt388.2.1 0 bt388.2.2.2.1 bt388.2.2.2.2.1 bt388.2.2.2.2.2) else (if (wi a0 6) = 2 then (damperlaw2_SpecEdges.j0 k bt388.1 bt388.2.1 bt388.2.2.1 bt388.2.2.2.1 10 bt388.2.2.2.2.2 bt388.1 bt388.2.1 bt388.2.2.1 bt388.2.2.2.1 11 bt388.2.2.2.2.2) else (if (wi a0 6) = 3 then (damperlaw2_SpecEdges.j0 k bt388.1 bt388.2.1 bt388.2.2.1 bt388.2.2.2.2.1 bt388.2.2.2.2.1 bt388.2.2.2.2.2 bt388.1 bt388.2.1 bt388.2.2.1 (wrap64 (bt388.2.2.2.2.1 + 1)) bt388.2.2.2.2.1 bt388.2.2.2.2.2) else (if (wi a0 6) = 4 then (damperlaw2_SpecEdges.j0 k bt388.1 bt388.2.1 bt388.2.2.1 bt388.2.2.2.1 bt388.2.2.2.2.1 30 bt388.1 bt388.2.1 bt388.2.2.1 bt388.2.2.2.1 bt388.2.2.2.2.1 31) else (if (wi a0 6) = 5 then (damperlaw2_SpecEdges.j0 k bt388.1 255 bt388.2.2.1 bt388.2.2.2.1 bt388.2.2.2.2.1 bt388.2.2.2.2.2 bt388.1 256 bt388.2.2.1 bt388.2.2.2.1 bt388.2.2.2.2.1 bt388.2.2.2.2.2) else (damperlaw2_SpecEdges.j0 k bt388.1 bt388.2.1 bt388.2.2.1 bt388.2.2.2.1 bt388.2.2.2.2.1 bt388.2.2.2.2.2 bt388.1 bt388.2.1 bt388.2.2.1 bt388.2.2.2.1 bt388.2.2.2.2.1 bt388.2.2.2.2.2)))))))) else (some false)) = some r := H
  have A3 := Aside0.mk A30
  clear A30
  by_cases c4 : t387 = true
  · subst c4
    have H1 : ((damperlaw2_Config.f a1_0 a1_1 a1_2 a1_3 a1_4 a1_5 0).bind fun bt388 => (if (wi a0 6) = 0 then (damperlaw2_SpecEdges.j0 k bt388.1 bt388.2.1 8 bt388.2.2.2.1 bt388.2.2.2.2.1 bt388.2.2.2.2.2 bt388.1 bt388.2.1 9 bt388.2.2.2.1 bt388.2.2.2.2.1 bt388.2.2.2.2.2) else (if (wi a0 6) = 1 then (damperlaw2_SpecEdges.j0 k bt388.1 bt388.2.1 1 bt388.2.2.2.1 bt388.2.2.2.2.1 bt388.2.2.2.2.2 bt388.1 bt388.2.1 0 bt388.2.2.2.1 bt388.2.2.2.2.1 bt388.2.2.2.2.2) else (if (wi a0 6) = 2 then (damperlaw2_SpecEdges.j0 k bt388.1 bt388.2.1 bt388.2.2.1 bt388.2.2.2.1 10 bt388.2.2.2.2.2 bt388.1 bt388.2.1 bt388.2.2.1 bt388.2.2.2.1 11 bt388.2.2.2.2.2) else (if (wi a0 6) = 3 then (damperlaw2_SpecEdges.j0 k bt388.1 bt388.2.1 bt388.2.2.1 bt388.2.2.2.2.1 bt388.2.2.2.2.1 bt388.2.2.2.2.2 bt388.1 bt388.2.1 bt388.2.2.1 (wrap64 (bt388.2.2.2.2.1 + 1)) bt388.2.2.2.2.1 bt388.2.2.2.2.2) else (if (wi a0 6) = 4 then (damperlaw2_SpecEdges.j0 k bt388.1 bt388.2.1 bt388.2.2.1 bt388.2.2.2.1 bt388.2.2.2.2.1 30 bt388.1 bt388.2.1 bt388.2.2.1 bt388.2.2.2.1 bt388.2.2.2.2.1 31) else (if (wi a0 6) = 5 then (damperlaw2_SpecEdges.j0 k bt388.1 255 bt388.2.2.1 bt388.2.2.2.1 bt388.2.2.2.2.1 bt388.2.2.2.2.2 bt388.1 256 bt388.2.2.1 bt388.2.2.2.1 bt388.2.2.2.2.1 bt388.2.2.2.2.2) else (damperlaw2_SpecEdges.j0 k bt388.1 bt388.2.1 bt388.2.2.1 bt388.2.2.2.1 bt388.2.2.2.2.1 bt388.2.2.2.2.2 bt388.1 bt388.2.1 bt388.2.2.1 bt388.2.2.2.1 bt388.2.2.2.2.1 bt388.2.2.2.2.2)))))))) = some r := by rw [if_pos rfl] at H; exact H
    clear H
    have H := H1
    clear H1
    replace H := Option.bind_eq_some_iff.mp H
    obtain ⟨⟨t388, t389, t390, t391, t392, t393⟩, A50, H⟩ := H
    replace H : (if (wi a0 6) = 0 then (damperlaw2_SpecEdges.j0 k t388 t389 8 t391 t392 t393 t388 t389 9 t391 t392 t393) else (if (wi a0 6) = 1 then (damperlaw2_SpecEdges.j0 k t388 t389 1 t391 t392 t393 t388 t389 0 t391 t392 t393) else (if (wi a0 6) = 2 then (damperlaw2_SpecEdges.j0 k t388 t389 t390 t391 10 t393 t388 t389 t390 t391 11 t393) else (if (wi a0 6) = 3 then (damperlaw2_SpecEdges.j0 k t388 t389 t390 t392 t392 t393 t388 t389 t390 (wrap64 (t392 + 1)) t392 t393) else (if (wi a0 6) = 4 then (damperlaw2_SpecEdges.j0 k t388 t389 t390 t391 t392 30 t388 t389 t390 t391 t392 31) else (if (wi a0 6) = 5 then (damperlaw2_SpecEdges.j0 k t388 255 t390 t391 t392 t393 t388 256 t390 t391 t392 t393) else (damperlaw2_SpecEdges.j0 k t388 t389 t390 t391 t392 t393 t388 t389 t390 t391 t392 t393))))))) = some r := H
    have A5 := Aside0.mk A50
    clear A50
    obtain ⟨ji6, hji6⟩ : ∃ j_ : Int, (wi a0 6) = j_ := ⟨_, rfl⟩
    replace H : (if (ji6) = 0 then (damperlaw2_SpecEdges.j0 k t388 t389 8 t391 t392 t393 t388 t389 9 t391 t392 t393) else (if (ji6) = 1 then (damperlaw2_SpecEdges.j0 k t388 t389 1 t391 t392 t393 t388 t389 0 t391 t392 t393) else (if (ji6) = 2 then (damperlaw2_SpecEdges.j0 k t388 t389 t390 t391 10 t393 t388 t389 t390 t391 11 t393) else (if (ji6) = 3 then (damperlaw2_SpecEdges.j0 k t388 t389 t390 t392 t392 t393 t388 t389 t390 (wrap64 (t392 + 1)) t392 t393) else (if (ji6) = 4 then (damperlaw2_SpecEdges.j0 k t388 t389 t390 t391 t392 30 t388 t389 t390 t391 t392 31) else (if (ji6) = 5 then (damperlaw2_SpecEdges.j0 k t388 255 t390 t391 t392 t393 t388 256 t390 t391 t392 t393) else (damperlaw2_SpecEdges.j0 k t388 t389 t390 t391 t392 t393 t388 t389 t390 t391 t392 t393))))))) = some r := by first | (rw [hji6] at H; exact H) | (simp only [hji6] at H ⊢; exact H)
    (try rw [hji6] at A3)
    (try rw [hji6] at A5)
    have HC7 := Aside0.mk H
    clear H
    go_enter Tryd.func8, Tryd.ntmps8
    go_upto_block 0 with (first | (go_at_call 15; refine (damperlaw2_within.keep _ _ rfl (by first | decide | assumption | exact wi_ne (by assumption) | exact wi_ne' (by assumption) | omega) _).mono ?_; rintro e w' ⟨rfl, rfl⟩) | ((with_reducible refine gate_dst (N := 3) rfl ?_); refine box_event ?hg (N := 3) ?hd (cs := #[.string a1_0, .int .i64 a1_1, .int .i64 a1_2, .int .i64 a1_3, .int .i64 a1_4, .int .i64 a1_5]) (t := 23) ?hr ?_; (case hd => rfl); (case hg => rfl); (case hr => first | (go_simp; done) | (go_simp; rfl)); intro gb386 hg w8 hbox hb; have n0_ := Aside0.mk (below_step (by repeat (first | (with_reducible first | exact HB.out | apply below_alloc | apply pw_below_drewN | apply below_drew1) | exact HB.out)) hb); have n1_ := Aside0.mk (hbox); have n2_ := Aside0.mk ((by rw [hg]; exact (below_size (by repeat (first | (with_reducible first | exact HB.out | apply below_alloc | apply pw_below_drewN | apply below_drew1) | exact HB.out))) : w.heap.size ≤ gb386)); have n3_ := Aside0.mk ((by rw [hg]; exact (below_size (by repeat (first | (with_reducible first | exact HB.out | apply below_alloc | apply pw_below_drewN | apply below_drew1) | exact HB.out))) : w.heap.size ≤ gb386)); clear HB; have HB := n0_; have BK386 := n1_; have GW386 := n2_; have GE386 := n3_; clear n0_ n1_ n2_ n3_; clear hb hbox hg) | ((with_reducible refine gate_callee (f := 11) rfl ?_); refine goesL_ (some 7) rfl rfl Tryd.func11 (by kernel_rfl) rfl #[] rfl (by (try simp only [List.map_toArray, List.map_cons, List.map_nil]); first | done | rfl | (simp only [List.length_drop, List.length_take]; rfl)) ?_; (with_reducible refine (damperlaw2_known.calls k  true _ ?side1 A3.out).mono ?_); (case side1 => first | exact hLd_.out | exact hLd_ | exact ⟨LaidW.below hLd_.out (by repeat (first | (with_reducible first | exact HB.out | apply below_alloc | apply pw_below_drewN | apply below_drew1 | refine below_set ?_ GE386.out) | exact HB.out))⟩ | exact ⟨LaidW.below hLd_.out (by repeat (first | exact Below.refl _ _ | apply below_alloc | apply pw_below_drewN | apply below_drew1))⟩); rintro e w9 ⟨rfl, hb⟩; refine ⟨_, rfl, ?_⟩; have n0_ := Aside0.mk (blk_below (g := gb386) (pk BK386) hb); have n1_ := Aside0.mk (below_step (by repeat (first | (with_reducible first | exact HB.out | apply below_alloc | apply pw_below_drewN | apply below_drew1 | refine below_set ?_ GE386.out) | exact HB.out)) hb); clear BK386; clear HB; have BK386 := n0_; have HB := n1_; clear n0_ n1_; (try clear hb); (try clear hb2); (try clear hk); (try clear hi); have hcz10_0 : w9.cell? ⟨gb386, 0, none⟩ = some (.string a1_0) := bc BK386 0; have hcz10_1 : w9.cell? ⟨gb386, 1, none⟩ = some (.int .i64 a1_1) := bc BK386 1; have hcz10_2 : w9.cell? ⟨gb386, 2, none⟩ = some (.int .i64 a1_2) := bc BK386 2; have hcz10_3 : w9.cell? ⟨gb386, 3, none⟩ = some (.int .i64 a1_3) := bc BK386 3; have hcz10_4 : w9.cell? ⟨gb386, 4, none⟩ = some (.int .i64 a1_4) := bc BK386 4; have hcz10_5 : w9.cell? ⟨gb386, 5, none⟩ = some (.int .i64 a1_5) := bc BK386 5; have hfz10_0 := blk_frozen BK386.out 0; have hfz10_1 := blk_frozen BK386.out 1; have hfz10_2 := blk_frozen BK386.out 2; have hfz10_3 := blk_frozen BK386.out 3; have hfz10_4 := blk_frozen BK386.out 4; have hfz10_5 := blk_frozen BK386.out 5) | ((with_reducible refine gate_callee (f := 12) rfl ?_); refine goesL_ (some 10) rfl rfl Tryd.func12 (by kernel_rfl) rfl #[.agg #[.string a1_0, .int .i64 a1_1, .int .i64 a1_2, .int .i64 a1_3, .int .i64 a1_4, .int .i64 a1_5], .int .i64 0] rfl (by (try simp only [List.map_toArray, List.map_cons, List.map_nil]); first | done | rfl | (simp only [List.length_drop, List.length_take]; rfl)) ?_; (with_reducible refine (damperlaw2_Config.calls a1_0 a1_1 a1_2 a1_3 a1_4 a1_5 0 t388 t389 t390 t391 t392 t393 _ A5.out).mono ?_); rintro e w11 ⟨rfl, hb⟩; refine ⟨_, rfl, ?_⟩; have n0_ := Aside0.mk (blk_below (g := gb386) (pk BK386) hb); have n1_ := Aside0.mk (below_step (by repeat (first | (with_reducible first | exact HB.out | apply below_alloc | apply pw_below_drewN | apply below_drew1 | refine below_set ?_ GE386.out) | exact HB.out)) hb); clear BK386; clear HB; have BK386 := n0_; have HB := n1_; clear n0_ n1_; (try clear hb); (try clear hb2); (try clear hk); (try clear hi)) | ((with_reducible refine gate_dst (N := 5) rfl ?_); refine box_event ?hg (N := 5) ?hd (cs := #[.string (⟨#[]⟩ : ByteArray), .int .i64 0, .int .i64 0, .int .i64 0, .int .i64 0, .int .i64 0]) (t := 23) ?hr ?_; (case hd => rfl); (case hg => rfl); (case hr => first | (go_simp; done) | (go_simp; rfl)); intro gb394 hg w12 hbox hb; have n0_ := Aside0.mk (blk_below (g := gb386) (pk BK386) hb); have n1_ := Aside0.mk (below_step (by repeat (first | (with_reducible first | exact HB.out | apply below_alloc | apply pw_below_drewN | apply below_drew1 | refine below_set ?_ GE386.out) | exact HB.out)) hb); have n2_ := Aside0.mk (hbox); have n3_ := Aside0.mk ((by rw [hg]; exact (below_size (by repeat (first | (with_reducible first | exact HB.out | apply below_alloc | apply pw_below_drewN | apply below_drew1 | refine below_set ?_ GE386.out) | exact HB.out))) : w.heap.size ≤ gb394)); have n4_ := Aside0.mk ((by rw [hg]; exact (below_size (by repeat (first | (with_reducible first | exact HB.out | apply below_alloc | apply pw_below_drewN | apply below_drew1 | refine below_set ?_ GE386.out) | exact HB.out))) : w.heap.size ≤ gb394)); have n5_ := Aside0.mk ((ne_lt hg (pk BK386) : gb386 ≠ gb394)); have n6_ := Aside0.mk ((ne_gt hg (pk BK386) : gb394 ≠ gb386)); clear BK386; clear HB; have BK386 := n0_; have HB := n1_; have BK394 := n2_; have GW394 := n3_; have GE394 := n4_; have NB386_394 := n5_; have NB394_386 := n6_; clear n0_ n1_ n2_ n3_ n4_ n5_ n6_; clear hb hbox hg; have hnb13 := NB394_386.out; have hnc13 := NB386_394.out; have hcz14_0 : w12.cell? ⟨gb394, 0, none⟩ = some (.string (⟨#[]⟩ : ByteArray)) := bc BK394 0; have hcz14_1 : w12.cell? ⟨gb394, 1, none⟩ = some (.int .i64 0) := bc BK394 1; have hcz14_2 : w12.cell? ⟨gb394, 2, none⟩ = some (.int .i64 0) := bc BK394 2; have hcz14_3 : w12.cell? ⟨gb394, 3, none⟩ = some (.int .i64 0) := bc BK394 3; have hcz14_4 : w12.cell? ⟨gb394, 4, none⟩ = some (.int .i64 0) := bc BK394 4; have hcz14_5 : w12.cell? ⟨gb394, 5, none⟩ = some (.int .i64 0) := bc BK394 5; have hfz14_0 := blk_frozen BK394.out 0; have hfz14_1 := blk_frozen BK394.out 1; have hfz14_2 := blk_frozen BK394.out 2; have hfz14_3 := blk_frozen BK394.out 3; have hfz14_4 := blk_frozen BK394.out 4; have hfz14_5 := blk_frozen BK394.out 5) | ((with_reducible refine gate_dst (N := 6) rfl ?_); refine box_event ?hg (N := 6) ?hd (cs := #[.string (⟨#[]⟩ : ByteArray), .int .i64 0, .int .i64 0, .int .i64 0, .int .i64 0, .int .i64 0]) (t := 23) ?hr ?_; (case hd => rfl); (case hg => rfl); (case hr => first | (go_simp; done) | (go_simp; rfl)); intro gb395 hg w15 hbox hb; have n0_ := Aside0.mk (blk_below (g := gb386) (o := .cells #[.string a1_0, .int .i64 a1_1, .int .i64 a1_2, .int .i64 a1_3, .int .i64 a1_4, .int .i64 a1_5] 23 (0, 0)) (by (repeat ((with_reducible repeat (first | refine blk_drewN ?_ _ | refine blk_drew ?_ | refine blk_alloc ?_ _)); with_reducible refine blk_far ?_ NB386_394.out _)); (with_reducible repeat (first | refine blk_drewN ?_ _ | refine blk_drew ?_ | refine blk_alloc ?_ _)); exact BK386.out) hb); have n1_ := Aside0.mk (blk_below (g := gb394) (o := .cells #[.string t388, .int .i64 t389, .int .i64 t390, .int .i64 t391, .int .i64 t392, .int .i64 t393] 23 (0, 0)) (by (with_reducible repeat (first | refine blk_drewN ?_ _ | refine blk_drew ?_ | refine blk_alloc ?_ _)); refine blk_put (cs := #[.string t388, .int .i64 t389, .int .i64 t390, .int .i64 t391, .int .i64 t392, .int .i64 0]) ?_ 5 _ rfl; (with_reducible repeat (first | refine blk_drewN ?_ _ | refine blk_drew ?_ | refine blk_alloc ?_ _)); refine blk_put (cs := #[.string t388, .int .i64 t389, .int .i64 t390, .int .i64 t391, .int .i64 0, .int .i64 0]) ?_ 4 _ rfl; (with_reducible repeat (first | refine blk_drewN ?_ _ | refine blk_drew ?_ | refine blk_alloc ?_ _)); refine blk_put (cs := #[.string t388, .int .i64 t389, .int .i64 t390, .int .i64 0, .int .i64 0, .int .i64 0]) ?_ 3 _ rfl; (with_reducible repeat (first | refine blk_drewN ?_ _ | refine blk_drew ?_ | refine blk_alloc ?_ _)); refine blk_put (cs := #[.string t388, .int .i64 t389, .int .i64 0, .int .i64 0, .int .i64 0, .int .i64 0]) ?_ 2 _ rfl; (with_reducible repeat (first | refine blk_drewN ?_ _ | refine blk_drew ?_ | refine blk_alloc ?_ _)); refine blk_put (cs := #[.string t388, .int .i64 0, .int .i64 0, .int .i64 0, .int .i64 0, .int .i64 0]) ?_ 1 _ rfl; (with_reducible repeat (first | refine blk_drewN ?_ _ | refine blk_drew ?_ | refine blk_alloc ?_ _)); refine blk_put (cs := #[.string (⟨#[]⟩ : ByteArray), .int .i64 0, .int .i64 0, .int .i64 0, .int .i64 0, .int .i64 0]) ?_ 0 _ rfl; (with_reducible repeat (first | refine blk_drewN ?_ _ | refine blk_drew ?_ | refine blk_alloc ?_ _)); exact BK394.out) hb); have n2_ := Aside0.mk (below_step (by repeat (first | (with_reducible first | exact HB.out | apply below_alloc | apply pw_below_drewN | apply below_drew1 | refine below_set ?_ GE386.out | refine below_set ?_ GE394.out) | exact HB.out)) hb); have n3_ := Aside0.mk (hbox); have n4_ := Aside0.mk ((by rw [hg]; exact (below_size (by repeat (first | (with_reducible first | exact HB.out | apply below_alloc | apply pw_below_drewN | apply below_drew1 | refine below_set ?_ GE386.out | refine below_set ?_ GE394.out) | exact HB.out))) : w.heap.size ≤ gb395)); have n5_ := Aside0.mk ((by rw [hg]; exact (below_size (by repeat (first | (with_reducible first | exact HB.out | apply below_alloc | apply pw_below_drewN | apply below_drew1 | refine below_set ?_ GE386.out | refine below_set ?_ GE394.out) | exact HB.out))) : w.heap.size ≤ gb395)); have n6_ := Aside0.mk ((by rw [hg]; exact Nat.ne_of_lt (blk_lt (g := gb386) (o := .cells #[.string a1_0, .int .i64 a1_1, .int .i64 a1_2, .int .i64 a1_3, .int .i64 a1_4, .int .i64 a1_5] 23 (0, 0)) (by (repeat ((with_reducible repeat (first | refine blk_drewN ?_ _ | refine blk_drew ?_ | refine blk_alloc ?_ _)); with_reducible refine blk_far ?_ NB386_394.out _)); (with_reducible repeat (first | refine blk_drewN ?_ _ | refine blk_drew ?_ | refine blk_alloc ?_ _)); exact BK386.out)) : gb386 ≠ gb395)); have n7_ := Aside0.mk ((by rw [hg]; exact Nat.ne_of_gt (blk_lt (g := gb386) (o := .cells #[.string a1_0, .int .i64 a1_1, .int .i64 a1_2, .int .i64 a1_3, .int .i64 a1_4, .int .i64 a1_5] 23 (0, 0)) (by (repeat ((with_reducible repeat (first | refine blk_drewN ?_ _ | refine blk_drew ?_ | refine blk_alloc ?_ _)); with_reducible refine blk_far ?_ NB386_394.out _)); (with_reducible repeat (first | refine blk_drewN ?_ _ | refine blk_drew ?_ | refine blk_alloc ?_ _)); exact BK386.out)) : gb395 ≠ gb386)); have n8_ := Aside0.mk ((by rw [hg]; exact Nat.ne_of_lt (blk_lt (g := gb394) (o := .cells #[.string t388, .int .i64 t389, .int .i64 t390, .int .i64 t391, .int .i64 t392, .int .i64 t393] 23 (0, 0)) (by (with_reducible repeat (first | refine blk_drewN ?_ _ | refine blk_drew ?_ | refine blk_alloc ?_ _)); refine blk_put (cs := #[.string t388, .int .i64 t389, .int .i64 t390, .int .i64 t391, .int .i64 t392, .int .i64 0]) ?_ 5 _ rfl; (with_reducible repeat (first | refine blk_drewN ?_ _ | refine blk_drew ?_ | refine blk_alloc ?_ _)); refine blk_put (cs := #[.string t388, .int .i64 t389, .int .i64 t390, .int .i64 t391, .int .i64 0, .int .i64 0]) ?_ 4 _ rfl; (with_reducible repeat (first | refine blk_drewN ?_ _ | refine blk_drew ?_ | refine blk_alloc ?_ _)); refine blk_put (cs := #[.string t388, .int .i64 t389, .int .i64 t390, .int .i64 0, .int .i64 0, .int .i64 0]) ?_ 3 _ rfl; (with_reducible repeat (first | refine blk_drewN ?_ _ | refine blk_drew ?_ | refine blk_alloc ?_ _)); refine blk_put (cs := #[.string t388, .int .i64 t389, .int .i64 0, .int .i64 0, .int .i64 0, .int .i64 0]) ?_ 2 _ rfl; (with_reducible repeat (first | refine blk_drewN ?_ _ | refine blk_drew ?_ | refine blk_alloc ?_ _)); refine blk_put (cs := #[.string t388, .int .i64 0, .int .i64 0, .int .i64 0, .int .i64 0, .int .i64 0]) ?_ 1 _ rfl; (with_reducible repeat (first | refine blk_drewN ?_ _ | refine blk_drew ?_ | refine blk_alloc ?_ _)); refine blk_put (cs := #[.string (⟨#[]⟩ : ByteArray), .int .i64 0, .int .i64 0, .int .i64 0, .int .i64 0, .int .i64 0]) ?_ 0 _ rfl; (with_reducible repeat (first | refine blk_drewN ?_ _ | refine blk_drew ?_ | refine blk_alloc ?_ _)); exact BK394.out)) : gb394 ≠ gb395)); have n9_ := Aside0.mk ((by rw [hg]; exact Nat.ne_of_gt (blk_lt (g := gb394) (o := .cells #[.string t388, .int .i64 t389, .int .i64 t390, .int .i64 t391, .int .i64 t392, .int .i64 t393] 23 (0, 0)) (by (with_reducible repeat (first | refine blk_drewN ?_ _ | refine blk_drew ?_ | refine blk_alloc ?_ _)); refine blk_put (cs := #[.string t388, .int .i64 t389, .int .i64 t390, .int .i64 t391, .int .i64 t392, .int .i64 0]) ?_ 5 _ rfl; (with_reducible repeat (first | refine blk_drewN ?_ _ | refine blk_drew ?_ | refine blk_alloc ?_ _)); refine blk_put (cs := #[.string t388, .int .i64 t389, .int .i64 t390, .int .i64 t391, .int .i64 0, .int .i64 0]) ?_ 4 _ rfl; (with_reducible repeat (first | refine blk_drewN ?_ _ | refine blk_drew ?_ | refine blk_alloc ?_ _)); refine blk_put (cs := #[.string t388, .int .i64 t389, .int .i64 t390, .int .i64 0, .int .i64 0, .int .i64 0]) ?_ 3 _ rfl; (with_reducible repeat (first | refine blk_drewN ?_ _ | refine blk_drew ?_ | refine blk_alloc ?_ _)); refine blk_put (cs := #[.string t388, .int .i64 t389, .int .i64 0, .int .i64 0, .int .i64 0, .int .i64 0]) ?_ 2 _ rfl; (with_reducible repeat (first | refine blk_drewN ?_ _ | refine blk_drew ?_ | refine blk_alloc ?_ _)); refine blk_put (cs := #[.string t388, .int .i64 0, .int .i64 0, .int .i64 0, .int .i64 0, .int .i64 0]) ?_ 1 _ rfl; (with_reducible repeat (first | refine blk_drewN ?_ _ | refine blk_drew ?_ | refine blk_alloc ?_ _)); refine blk_put (cs := #[.string (⟨#[]⟩ : ByteArray), .int .i64 0, .int .i64 0, .int .i64 0, .int .i64 0, .int .i64 0]) ?_ 0 _ rfl; (with_reducible repeat (first | refine blk_drewN ?_ _ | refine blk_drew ?_ | refine blk_alloc ?_ _)); exact BK394.out)) : gb395 ≠ gb394)); clear BK386; clear BK394; clear HB; have BK386 := n0_; have BK394 := n1_; have HB := n2_; have BK395 := n3_; have GW395 := n4_; have GE395 := n5_; have NB386_395 := n6_; have NB395_386 := n7_; have NB394_395 := n8_; have NB395_394 := n9_; clear n0_ n1_ n2_ n3_ n4_ n5_ n6_ n7_ n8_ n9_; clear hb hbox hg; have hnb16 := NB395_386.out; have hnc16 := NB386_395.out; have hnb17 := NB395_394.out; have hnc17 := NB394_395.out; have hcz18_0 : w15.cell? ⟨gb395, 0, none⟩ = some (.string (⟨#[]⟩ : ByteArray)) := bc BK395 0; have hcz18_1 : w15.cell? ⟨gb395, 1, none⟩ = some (.int .i64 0) := bc BK395 1; have hcz18_2 : w15.cell? ⟨gb395, 2, none⟩ = some (.int .i64 0) := bc BK395 2; have hcz18_3 : w15.cell? ⟨gb395, 3, none⟩ = some (.int .i64 0) := bc BK395 3; have hcz18_4 : w15.cell? ⟨gb395, 4, none⟩ = some (.int .i64 0) := bc BK395 4; have hcz18_5 : w15.cell? ⟨gb395, 5, none⟩ = some (.int .i64 0) := bc BK395 5; have hfz18_0 := blk_frozen BK395.out 0; have hfz18_1 := blk_frozen BK395.out 1; have hfz18_2 := blk_frozen BK395.out 2; have hfz18_3 := blk_frozen BK395.out 3; have hfz18_4 := blk_frozen BK395.out 4; have hfz18_5 := blk_frozen BK395.out 5))
    (try simp only [Act.put, List.setIfInBounds_toArray, List.set_cons_zero, List.set_cons_succ])
    go_cut [] (fun wc => ∃ (kq : Nat) (x395001_6 : Int) (x395002_6 : Int) (x395003_6 : Int) (x395004_6 : Int) (x395005_6 : Int) (x396001_6 : Int) (x396002_6 : Int) (x396003_6 : Int) (x396004_6 : Int) (x396005_6 : Int), Aside0 (damperlaw2_SpecEdges.j0 kq t388 x395001_6 x395002_6 x395003_6 x395004_6 x395005_6 t388 x396001_6 x396002_6 x396003_6 x396004_6 x396005_6 = some r) ∧ Aside0 (kq ≤ k) ∧ Aside0 (wc.heap[gb386]? = some (.cells #[.string a1_0, .int .i64 a1_1, .int .i64 a1_2, .int .i64 a1_3, .int .i64 a1_4, .int .i64 a1_5] 23 (0, 0))) ∧ Aside0 (wc.heap[gb394]? = some (.cells #[.string t388, .int .i64 x395001_6, .int .i64 x395002_6, .int .i64 x395003_6, .int .i64 x395004_6, .int .i64 x395005_6] 23 (0, 0))) ∧ Aside0 (wc.heap[gb395]? = some (.cells #[.string t388, .int .i64 x396001_6, .int .i64 x396002_6, .int .i64 x396003_6, .int .i64 x396004_6, .int .i64 x396005_6] 23 (0, 0))) ∧ Aside0 (Below w.heap.size w wc))
    case first =>
      have H := HC7.out
      clear HC7
      by_cases c19 : (ji6) = 0
      · rw [if_pos c19] at H
        have c19b0 : ((ji6) == 0) = true := beq_iff_eq.mpr c19
        have c19b1 : ((ji6) != 0) = false := bne_eq_false_iff_eq.mpr c19
        clear c19
        (first | rw [c19b0] | (simp only [i64_w, i32_w]; rw [c19b0]) | rw [c19b1] | skip)
        have H' := Aside0.mk H
        clear H
        have hnb20 := NB394_386.out
        have hnc20 := NB386_394.out
        have hnb21 := NB394_395.out
        have hnc21 := NB395_394.out
        have hcz22_0 : w15.cell? ⟨gb394, 0, none⟩ = some (.string t388) := bc BK394 0
        have hcz22_1 : w15.cell? ⟨gb394, 1, none⟩ = some (.int .i64 t389) := bc BK394 1
        have hcz22_2 : w15.cell? ⟨gb394, 2, none⟩ = some (.int .i64 t390) := bc BK394 2
        have hcz22_3 : w15.cell? ⟨gb394, 3, none⟩ = some (.int .i64 t391) := bc BK394 3
        have hcz22_4 : w15.cell? ⟨gb394, 4, none⟩ = some (.int .i64 t392) := bc BK394 4
        have hcz22_5 : w15.cell? ⟨gb394, 5, none⟩ = some (.int .i64 t393) := bc BK394 5
        have hfz22_0 := blk_frozen BK394.out 0
        have hfz22_1 := blk_frozen BK394.out 1
        have hfz22_2 := blk_frozen BK394.out 2
        have hfz22_3 := blk_frozen BK394.out 3
        have hfz22_4 := blk_frozen BK394.out 4
        have hfz22_5 := blk_frozen BK394.out 5
        have hnb23 := NB395_386.out
        have hnc23 := NB386_395.out
        have hcz24_0 : w15.cell? ⟨gb395, 0, none⟩ = some (.string (⟨#[]⟩ : ByteArray)) := bc BK395 0
        have hcz24_1 : w15.cell? ⟨gb395, 1, none⟩ = some (.int .i64 0) := bc BK395 1
        have hcz24_2 : w15.cell? ⟨gb395, 2, none⟩ = some (.int .i64 0) := bc BK395 2
        have hcz24_3 : w15.cell? ⟨gb395, 3, none⟩ = some (.int .i64 0) := bc BK395 3
        have hcz24_4 : w15.cell? ⟨gb395, 4, none⟩ = some (.int .i64 0) := bc BK395 4
        have hcz24_5 : w15.cell? ⟨gb395, 5, none⟩ = some (.int .i64 0) := bc BK395 5
        have hfz24_0 := blk_frozen BK395.out 0
        have hfz24_1 := blk_frozen BK395.out 1
        have hfz24_2 := blk_frozen BK395.out 2
        have hfz24_3 := blk_frozen BK395.out 3
        have hfz24_4 := blk_frozen BK395.out 4
        have hfz24_5 := blk_frozen BK395.out 5
        go_wp2_with (first | (go_at_call 15; refine (damperlaw2_within.keep _ _ rfl (by first | decide | assumption | exact wi_ne (by assumption) | exact wi_ne' (by assumption) | omega) _).mono ?_; rintro e w' ⟨rfl, rfl⟩))
        go_meet
        case rel => exact ⟨_, (t389), (8), (t391), (t392), (t393), (t389), (9), (t391), (t392), (t393), H', ⟨by first | omega | exact Nat.le_refl _⟩, ⟨by (with_reducible repeat (first | refine blk_drewN ?_ _ | refine blk_drew ?_ | refine blk_alloc ?_ _)); refine blk_far ?_ NB386_395.out _; (with_reducible repeat (first | refine blk_drewN ?_ _ | refine blk_drew ?_ | refine blk_alloc ?_ _)); refine blk_far ?_ NB386_394.out _; (repeat ((with_reducible repeat (first | refine blk_drewN ?_ _ | refine blk_drew ?_ | refine blk_alloc ?_ _)); with_reducible refine blk_far ?_ NB386_395.out _)); (with_reducible repeat (first | refine blk_drewN ?_ _ | refine blk_drew ?_ | refine blk_alloc ?_ _)); exact BK386.out⟩, ⟨by (with_reducible repeat (first | refine blk_drewN ?_ _ | refine blk_drew ?_ | refine blk_alloc ?_ _)); refine blk_far ?_ NB394_395.out _; (with_reducible repeat (first | refine blk_drewN ?_ _ | refine blk_drew ?_ | refine blk_alloc ?_ _)); refine blk_put (cs := #[.string t388, .int .i64 t389, .int .i64 t390, .int .i64 t391, .int .i64 t392, .int .i64 t393]) ?_ 2 _ rfl; (repeat ((with_reducible repeat (first | refine blk_drewN ?_ _ | refine blk_drew ?_ | refine blk_alloc ?_ _)); with_reducible refine blk_far ?_ NB394_395.out _)); (with_reducible repeat (first | refine blk_drewN ?_ _ | refine blk_drew ?_ | refine blk_alloc ?_ _)); exact BK394.out⟩, ⟨by (with_reducible repeat (first | refine blk_drewN ?_ _ | refine blk_drew ?_ | refine blk_alloc ?_ _)); refine blk_put (cs := #[.string t388, .int .i64 t389, .int .i64 t390, .int .i64 t391, .int .i64 t392, .int .i64 t393]) ?_ 2 _ rfl; (with_reducible repeat (first | refine blk_drewN ?_ _ | refine blk_drew ?_ | refine blk_alloc ?_ _)); refine blk_far ?_ NB395_394.out _; (with_reducible repeat (first | refine blk_drewN ?_ _ | refine blk_drew ?_ | refine blk_alloc ?_ _)); refine blk_put (cs := #[.string t388, .int .i64 t389, .int .i64 t390, .int .i64 t391, .int .i64 t392, .int .i64 0]) ?_ 5 _ rfl; (with_reducible repeat (first | refine blk_drewN ?_ _ | refine blk_drew ?_ | refine blk_alloc ?_ _)); refine blk_put (cs := #[.string t388, .int .i64 t389, .int .i64 t390, .int .i64 t391, .int .i64 0, .int .i64 0]) ?_ 4 _ rfl; (with_reducible repeat (first | refine blk_drewN ?_ _ | refine blk_drew ?_ | refine blk_alloc ?_ _)); refine blk_put (cs := #[.string t388, .int .i64 t389, .int .i64 t390, .int .i64 0, .int .i64 0, .int .i64 0]) ?_ 3 _ rfl; (with_reducible repeat (first | refine blk_drewN ?_ _ | refine blk_drew ?_ | refine blk_alloc ?_ _)); refine blk_put (cs := #[.string t388, .int .i64 t389, .int .i64 0, .int .i64 0, .int .i64 0, .int .i64 0]) ?_ 2 _ rfl; (with_reducible repeat (first | refine blk_drewN ?_ _ | refine blk_drew ?_ | refine blk_alloc ?_ _)); refine blk_put (cs := #[.string t388, .int .i64 0, .int .i64 0, .int .i64 0, .int .i64 0, .int .i64 0]) ?_ 1 _ rfl; (with_reducible repeat (first | refine blk_drewN ?_ _ | refine blk_drew ?_ | refine blk_alloc ?_ _)); refine blk_put (cs := #[.string (⟨#[]⟩ : ByteArray), .int .i64 0, .int .i64 0, .int .i64 0, .int .i64 0, .int .i64 0]) ?_ 0 _ rfl; (with_reducible repeat (first | refine blk_drewN ?_ _ | refine blk_drew ?_ | refine blk_alloc ?_ _)); exact BK395.out⟩, ⟨by repeat (first | (with_reducible first | exact HB.out | apply below_alloc | apply pw_below_drewN | apply below_drew1 | refine below_set ?_ GE386.out | refine below_set ?_ GE394.out | refine below_set ?_ GE395.out) | exact HB.out)⟩⟩
      · rw [if_neg c19] at H
        have c19b0 : ((ji6) == 0) = false := beq_eq_false_iff_ne.mpr c19
        have c19b1 : ((ji6) != 0) = true := bne_iff_ne.mpr c19
        (first | rw [c19b0] | (simp only [i64_w, i32_w]; rw [c19b0]) | rw [c19b1] | skip)
        by_cases c25 : (ji6) = 1
        · rw [if_pos c25] at H
          have c25b0 : ((ji6) == 1) = true := beq_iff_eq.mpr c25
          have c25b1 : ((ji6) != 1) = false := bne_eq_false_iff_eq.mpr c25
          clear c25
          have H' := Aside0.mk H
          clear H
          have hnb26 := NB394_386.out
          have hnc26 := NB386_394.out
          have hnb27 := NB394_395.out
          have hnc27 := NB395_394.out
          have hcz28_0 : w15.cell? ⟨gb394, 0, none⟩ = some (.string t388) := bc BK394 0
          have hcz28_1 : w15.cell? ⟨gb394, 1, none⟩ = some (.int .i64 t389) := bc BK394 1
          have hcz28_2 : w15.cell? ⟨gb394, 2, none⟩ = some (.int .i64 t390) := bc BK394 2
          have hcz28_3 : w15.cell? ⟨gb394, 3, none⟩ = some (.int .i64 t391) := bc BK394 3
          have hcz28_4 : w15.cell? ⟨gb394, 4, none⟩ = some (.int .i64 t392) := bc BK394 4
          have hcz28_5 : w15.cell? ⟨gb394, 5, none⟩ = some (.int .i64 t393) := bc BK394 5
          have hfz28_0 := blk_frozen BK394.out 0
          have hfz28_1 := blk_frozen BK394.out 1
          have hfz28_2 := blk_frozen BK394.out 2
          have hfz28_3 := blk_frozen BK394.out 3
          have hfz28_4 := blk_frozen BK394.out 4
          have hfz28_5 := blk_frozen BK394.out 5
          have hnb29 := NB395_386.out
          have hnc29 := NB386_395.out
          have hcz30_0 : w15.cell? ⟨gb395, 0, none⟩ = some (.string (⟨#[]⟩ : ByteArray)) := bc BK395 0
          have hcz30_1 : w15.cell? ⟨gb395, 1, none⟩ = some (.int .i64 0) := bc BK395 1
          have hcz30_2 : w15.cell? ⟨gb395, 2, none⟩ = some (.int .i64 0) := bc BK395 2
          have hcz30_3 : w15.cell? ⟨gb395, 3, none⟩ = some (.int .i64 0) := bc BK395 3
          have hcz30_4 : w15.cell? ⟨gb395, 4, none⟩ = some (.int .i64 0) := bc BK395 4
          have hcz30_5 : w15.cell? ⟨gb395, 5, none⟩ = some (.int .i64 0) := bc BK395 5
          have hfz30_0 := blk_frozen BK395.out 0
          have hfz30_1 := blk_frozen BK395.out 1
          have hfz30_2 := blk_frozen BK395.out 2
          have hfz30_3 := blk_frozen BK395.out 3
          have hfz30_4 := blk_frozen BK395.out 4
          have hfz30_5 := blk_frozen BK395.out 5
          go_wp2_with (first | (go_at_call 15; refine (damperlaw2_within.keep _ _ rfl (by first | decide | assumption | exact wi_ne (by assumption) | exact wi_ne' (by assumption) | omega) _).mono ?_; rintro e w' ⟨rfl, rfl⟩))
          go_meet
          case rel => exact ⟨_, (t389), (1), (t391), (t392), (t393), (t389), (0), (t391), (t392), (t393), H', ⟨by first | omega | exact Nat.le_refl _⟩, ⟨by (with_reducible repeat (first | refine blk_drewN ?_ _ | refine blk_drew ?_ | refine blk_alloc ?_ _)); refine blk_far ?_ NB386_395.out _; (with_reducible repeat (first | refine blk_drewN ?_ _ | refine blk_drew ?_ | refine blk_alloc ?_ _)); refine blk_far ?_ NB386_394.out _; (repeat ((with_reducible repeat (first | refine blk_drewN ?_ _ | refine blk_drew ?_ | refine blk_alloc ?_ _)); with_reducible refine blk_far ?_ NB386_395.out _)); (with_reducible repeat (first | refine blk_drewN ?_ _ | refine blk_drew ?_ | refine blk_alloc ?_ _)); exact BK386.out⟩, ⟨by (with_reducible repeat (first | refine blk_drewN ?_ _ | refine blk_drew ?_ | refine blk_alloc ?_ _)); refine blk_far ?_ NB394_395.out _; (with_reducible repeat (first | refine blk_drewN ?_ _ | refine blk_drew ?_ | refine blk_alloc ?_ _)); refine blk_put (cs := #[.string t388, .int .i64 t389, .int .i64 t390, .int .i64 t391, .int .i64 t392, .int .i64 t393]) ?_ 2 _ rfl; (repeat ((with_reducible repeat (first | refine blk_drewN ?_ _ | refine blk_drew ?_ | refine blk_alloc ?_ _)); with_reducible refine blk_far ?_ NB394_395.out _)); (with_reducible repeat (first | refine blk_drewN ?_ _ | refine blk_drew ?_ | refine blk_alloc ?_ _)); exact BK394.out⟩, ⟨by (with_reducible repeat (first | refine blk_drewN ?_ _ | refine blk_drew ?_ | refine blk_alloc ?_ _)); refine blk_put (cs := #[.string t388, .int .i64 t389, .int .i64 t390, .int .i64 t391, .int .i64 t392, .int .i64 t393]) ?_ 2 _ rfl; (with_reducible repeat (first | refine blk_drewN ?_ _ | refine blk_drew ?_ | refine blk_alloc ?_ _)); refine blk_far ?_ NB395_394.out _; (with_reducible repeat (first | refine blk_drewN ?_ _ | refine blk_drew ?_ | refine blk_alloc ?_ _)); refine blk_put (cs := #[.string t388, .int .i64 t389, .int .i64 t390, .int .i64 t391, .int .i64 t392, .int .i64 0]) ?_ 5 _ rfl; (with_reducible repeat (first | refine blk_drewN ?_ _ | refine blk_drew ?_ | refine blk_alloc ?_ _)); refine blk_put (cs := #[.string t388, .int .i64 t389, .int .i64 t390, .int .i64 t391, .int .i64 0, .int .i64 0]) ?_ 4 _ rfl; (with_reducible repeat (first | refine blk_drewN ?_ _ | refine blk_drew ?_ | refine blk_alloc ?_ _)); refine blk_put (cs := #[.string t388, .int .i64 t389, .int .i64 t390, .int .i64 0, .int .i64 0, .int .i64 0]) ?_ 3 _ rfl; (with_reducible repeat (first | refine blk_drewN ?_ _ | refine blk_drew ?_ | refine blk_alloc ?_ _)); refine blk_put (cs := #[.string t388, .int .i64 t389, .int .i64 0, .int .i64 0, .int .i64 0, .int .i64 0]) ?_ 2 _ rfl; (with_reducible repeat (first | refine blk_drewN ?_ _ | refine blk_drew ?_ | refine blk_alloc ?_ _)); refine blk_put (cs := #[.string t388, .int .i64 0, .int .i64 0, .int .i64 0, .int .i64 0, .int .i64 0]) ?_ 1 _ rfl; (with_reducible repeat (first | refine blk_drewN ?_ _ | refine blk_drew ?_ | refine blk_alloc ?_ _)); refine blk_put (cs := #[.string (⟨#[]⟩ : ByteArray), .int .i64 0, .int .i64 0, .int .i64 0, .int .i64 0, .int .i64 0]) ?_ 0 _ rfl; (with_reducible repeat (first | refine blk_drewN ?_ _ | refine blk_drew ?_ | refine blk_alloc ?_ _)); exact BK395.out⟩, ⟨by repeat (first | (with_reducible first | exact HB.out | apply below_alloc | apply pw_below_drewN | apply below_drew1 | refine below_set ?_ GE386.out | refine below_set ?_ GE394.out | refine below_set ?_ GE395.out) | exact HB.out)⟩⟩
        · rw [if_neg c25] at H
          have c25b0 : ((ji6) == 1) = false := beq_eq_false_iff_ne.mpr c25
          have c25b1 : ((ji6) != 1) = true := bne_iff_ne.mpr c25
          by_cases c31 : (ji6) = 2
          · rw [if_pos c31] at H
            have c31b0 : ((ji6) == 2) = true := beq_iff_eq.mpr c31
            have c31b1 : ((ji6) != 2) = false := bne_eq_false_iff_eq.mpr c31
            clear c31
            have H' := Aside0.mk H
            clear H
            have hnb32 := NB394_386.out
            have hnc32 := NB386_394.out
            have hnb33 := NB394_395.out
            have hnc33 := NB395_394.out
            have hcz34_0 : w15.cell? ⟨gb394, 0, none⟩ = some (.string t388) := bc BK394 0
            have hcz34_1 : w15.cell? ⟨gb394, 1, none⟩ = some (.int .i64 t389) := bc BK394 1
            have hcz34_2 : w15.cell? ⟨gb394, 2, none⟩ = some (.int .i64 t390) := bc BK394 2
            have hcz34_3 : w15.cell? ⟨gb394, 3, none⟩ = some (.int .i64 t391) := bc BK394 3
            have hcz34_4 : w15.cell? ⟨gb394, 4, none⟩ = some (.int .i64 t392) := bc BK394 4
            have hcz34_5 : w15.cell? ⟨gb394, 5, none⟩ = some (.int .i64 t393) := bc BK394 5
            have hfz34_0 := blk_frozen BK394.out 0
            have hfz34_1 := blk_frozen BK394.out 1
            have hfz34_2 := blk_frozen BK394.out 2
            have hfz34_3 := blk_frozen BK394.out 3
            have hfz34_4 := blk_frozen BK394.out 4
            have hfz34_5 := blk_frozen BK394.out 5
            have hnb35 := NB395_386.out
            have hnc35 := NB386_395.out
            have hcz36_0 : w15.cell? ⟨gb395, 0, none⟩ = some (.string (⟨#[]⟩ : ByteArray)) := bc BK395 0
            have hcz36_1 : w15.cell? ⟨gb395, 1, none⟩ = some (.int .i64 0) := bc BK395 1
            have hcz36_2 : w15.cell? ⟨gb395, 2, none⟩ = some (.int .i64 0) := bc BK395 2
            have hcz36_3 : w15.cell? ⟨gb395, 3, none⟩ = some (.int .i64 0) := bc BK395 3
            have hcz36_4 : w15.cell? ⟨gb395, 4, none⟩ = some (.int .i64 0) := bc BK395 4
            have hcz36_5 : w15.cell? ⟨gb395, 5, none⟩ = some (.int .i64 0) := bc BK395 5
            have hfz36_0 := blk_frozen BK395.out 0
            have hfz36_1 := blk_frozen BK395.out 1
            have hfz36_2 := blk_frozen BK395.out 2
            have hfz36_3 := blk_frozen BK395.out 3
            have hfz36_4 := blk_frozen BK395.out 4
            have hfz36_5 := blk_frozen BK395.out 5
            go_wp2_with (first | (go_at_call 15; refine (damperlaw2_within.keep _ _ rfl (by first | decide | assumption | exact wi_ne (by assumption) | exact wi_ne' (by assumption) | omega) _).mono ?_; rintro e w' ⟨rfl, rfl⟩))
            go_meet
            case rel => exact ⟨_, (t389), (t390), (t391), (10), (t393), (t389), (t390), (t391), (11), (t393), H', ⟨by first | omega | exact Nat.le_refl _⟩, ⟨by (with_reducible repeat (first | refine blk_drewN ?_ _ | refine blk_drew ?_ | refine blk_alloc ?_ _)); refine blk_far ?_ NB386_395.out _; (with_reducible repeat (first | refine blk_drewN ?_ _ | refine blk_drew ?_ | refine blk_alloc ?_ _)); refine blk_far ?_ NB386_394.out _; (repeat ((with_reducible repeat (first | refine blk_drewN ?_ _ | refine blk_drew ?_ | refine blk_alloc ?_ _)); with_reducible refine blk_far ?_ NB386_395.out _)); (with_reducible repeat (first | refine blk_drewN ?_ _ | refine blk_drew ?_ | refine blk_alloc ?_ _)); exact BK386.out⟩, ⟨by (with_reducible repeat (first | refine blk_drewN ?_ _ | refine blk_drew ?_ | refine blk_alloc ?_ _)); refine blk_far ?_ NB394_395.out _; (with_reducible repeat (first | refine blk_drewN ?_ _ | refine blk_drew ?_ | refine blk_alloc ?_ _)); refine blk_put (cs := #[.string t388, .int .i64 t389, .int .i64 t390, .int .i64 t391, .int .i64 t392, .int .i64 t393]) ?_ 4 _ rfl; (repeat ((with_reducible repeat (first | refine blk_drewN ?_ _ | refine blk_drew ?_ | refine blk_alloc ?_ _)); with_reducible refine blk_far ?_ NB394_395.out _)); (with_reducible repeat (first | refine blk_drewN ?_ _ | refine blk_drew ?_ | refine blk_alloc ?_ _)); exact BK394.out⟩, ⟨by (with_reducible repeat (first | refine blk_drewN ?_ _ | refine blk_drew ?_ | refine blk_alloc ?_ _)); refine blk_put (cs := #[.string t388, .int .i64 t389, .int .i64 t390, .int .i64 t391, .int .i64 t392, .int .i64 t393]) ?_ 4 _ rfl; (with_reducible repeat (first | refine blk_drewN ?_ _ | refine blk_drew ?_ | refine blk_alloc ?_ _)); refine blk_far ?_ NB395_394.out _; (with_reducible repeat (first | refine blk_drewN ?_ _ | refine blk_drew ?_ | refine blk_alloc ?_ _)); refine blk_put (cs := #[.string t388, .int .i64 t389, .int .i64 t390, .int .i64 t391, .int .i64 t392, .int .i64 0]) ?_ 5 _ rfl; (with_reducible repeat (first | refine blk_drewN ?_ _ | refine blk_drew ?_ | refine blk_alloc ?_ _)); refine blk_put (cs := #[.string t388, .int .i64 t389, .int .i64 t390, .int .i64 t391, .int .i64 0, .int .i64 0]) ?_ 4 _ rfl; (with_reducible repeat (first | refine blk_drewN ?_ _ | refine blk_drew ?_ | refine blk_alloc ?_ _)); refine blk_put (cs := #[.string t388, .int .i64 t389, .int .i64 t390, .int .i64 0, .int .i64 0, .int .i64 0]) ?_ 3 _ rfl; (with_reducible repeat (first | refine blk_drewN ?_ _ | refine blk_drew ?_ | refine blk_alloc ?_ _)); refine blk_put (cs := #[.string t388, .int .i64 t389, .int .i64 0, .int .i64 0, .int .i64 0, .int .i64 0]) ?_ 2 _ rfl; (with_reducible repeat (first | refine blk_drewN ?_ _ | refine blk_drew ?_ | refine blk_alloc ?_ _)); refine blk_put (cs := #[.string t388, .int .i64 0, .int .i64 0, .int .i64 0, .int .i64 0, .int .i64 0]) ?_ 1 _ rfl; (with_reducible repeat (first | refine blk_drewN ?_ _ | refine blk_drew ?_ | refine blk_alloc ?_ _)); refine blk_put (cs := #[.string (⟨#[]⟩ : ByteArray), .int .i64 0, .int .i64 0, .int .i64 0, .int .i64 0, .int .i64 0]) ?_ 0 _ rfl; (with_reducible repeat (first | refine blk_drewN ?_ _ | refine blk_drew ?_ | refine blk_alloc ?_ _)); exact BK395.out⟩, ⟨by repeat (first | (with_reducible first | exact HB.out | apply below_alloc | apply pw_below_drewN | apply below_drew1 | refine below_set ?_ GE386.out | refine below_set ?_ GE394.out | refine below_set ?_ GE395.out) | exact HB.out)⟩⟩
          · rw [if_neg c31] at H
            have c31b0 : ((ji6) == 2) = false := beq_eq_false_iff_ne.mpr c31
            have c31b1 : ((ji6) != 2) = true := bne_iff_ne.mpr c31
            by_cases c37 : (ji6) = 3
            · rw [if_pos c37] at H
              have c37b0 : ((ji6) == 3) = true := beq_iff_eq.mpr c37
              have c37b1 : ((ji6) != 3) = false := bne_eq_false_iff_eq.mpr c37
              clear c37
              have H' := Aside0.mk H
              clear H
              have hnb38 := NB394_386.out
              have hnc38 := NB386_394.out
              have hnb39 := NB394_395.out
              have hnc39 := NB395_394.out
              have hcz40_0 : w15.cell? ⟨gb394, 0, none⟩ = some (.string t388) := bc BK394 0
              have hcz40_1 : w15.cell? ⟨gb394, 1, none⟩ = some (.int .i64 t389) := bc BK394 1
              have hcz40_2 : w15.cell? ⟨gb394, 2, none⟩ = some (.int .i64 t390) := bc BK394 2
              have hcz40_3 : w15.cell? ⟨gb394, 3, none⟩ = some (.int .i64 t391) := bc BK394 3
              have hcz40_4 : w15.cell? ⟨gb394, 4, none⟩ = some (.int .i64 t392) := bc BK394 4
              have hcz40_5 : w15.cell? ⟨gb394, 5, none⟩ = some (.int .i64 t393) := bc BK394 5
              have hfz40_0 := blk_frozen BK394.out 0
              have hfz40_1 := blk_frozen BK394.out 1
              have hfz40_2 := blk_frozen BK394.out 2
              have hfz40_3 := blk_frozen BK394.out 3
              have hfz40_4 := blk_frozen BK394.out 4
              have hfz40_5 := blk_frozen BK394.out 5
              have hnb41 := NB395_386.out
              have hnc41 := NB386_395.out
              have hcz42_0 : w15.cell? ⟨gb395, 0, none⟩ = some (.string (⟨#[]⟩ : ByteArray)) := bc BK395 0
              have hcz42_1 : w15.cell? ⟨gb395, 1, none⟩ = some (.int .i64 0) := bc BK395 1
              have hcz42_2 : w15.cell? ⟨gb395, 2, none⟩ = some (.int .i64 0) := bc BK395 2
              have hcz42_3 : w15.cell? ⟨gb395, 3, none⟩ = some (.int .i64 0) := bc BK395 3
              have hcz42_4 : w15.cell? ⟨gb395, 4, none⟩ = some (.int .i64 0) := bc BK395 4
              have hcz42_5 : w15.cell? ⟨gb395, 5, none⟩ = some (.int .i64 0) := bc BK395 5
              have hfz42_0 := blk_frozen BK395.out 0
              have hfz42_1 := blk_frozen BK395.out 1
              have hfz42_2 := blk_frozen BK395.out 2
              have hfz42_3 := blk_frozen BK395.out 3
              have hfz42_4 := blk_frozen BK395.out 4
              have hfz42_5 := blk_frozen BK395.out 5
              go_wp2_with (first | (go_at_call 15; refine (damperlaw2_within.keep _ _ rfl (by first | decide | assumption | exact wi_ne (by assumption) | exact wi_ne' (by assumption) | omega) _).mono ?_; rintro e w' ⟨rfl, rfl⟩))
              go_meet
              case rel => exact ⟨_, (t389), (t390), (t392), (t392), (t393), (t389), (t390), (wrap64 (t392 + 1)), (t392), (t393), H', ⟨by first | omega | exact Nat.le_refl _⟩, ⟨by (with_reducible repeat (first | refine blk_drewN ?_ _ | refine blk_drew ?_ | refine blk_alloc ?_ _)); refine blk_far ?_ NB386_395.out _; (with_reducible repeat (first | refine blk_drewN ?_ _ | refine blk_drew ?_ | refine blk_alloc ?_ _)); refine blk_far ?_ NB386_394.out _; (repeat ((with_reducible repeat (first | refine blk_drewN ?_ _ | refine blk_drew ?_ | refine blk_alloc ?_ _)); with_reducible refine blk_far ?_ NB386_395.out _)); (with_reducible repeat (first | refine blk_drewN ?_ _ | refine blk_drew ?_ | refine blk_alloc ?_ _)); exact BK386.out⟩, ⟨by (with_reducible repeat (first | refine blk_drewN ?_ _ | refine blk_drew ?_ | refine blk_alloc ?_ _)); refine blk_far ?_ NB394_395.out _; (with_reducible repeat (first | refine blk_drewN ?_ _ | refine blk_drew ?_ | refine blk_alloc ?_ _)); refine blk_put (cs := #[.string t388, .int .i64 t389, .int .i64 t390, .int .i64 t391, .int .i64 t392, .int .i64 t393]) ?_ 3 _ rfl; (repeat ((with_reducible repeat (first | refine blk_drewN ?_ _ | refine blk_drew ?_ | refine blk_alloc ?_ _)); with_reducible refine blk_far ?_ NB394_395.out _)); (with_reducible repeat (first | refine blk_drewN ?_ _ | refine blk_drew ?_ | refine blk_alloc ?_ _)); exact BK394.out⟩, ⟨by (with_reducible repeat (first | refine blk_drewN ?_ _ | refine blk_drew ?_ | refine blk_alloc ?_ _)); refine blk_put (cs := #[.string t388, .int .i64 t389, .int .i64 t390, .int .i64 t391, .int .i64 t392, .int .i64 t393]) ?_ 3 _ rfl; (with_reducible repeat (first | refine blk_drewN ?_ _ | refine blk_drew ?_ | refine blk_alloc ?_ _)); refine blk_far ?_ NB395_394.out _; (with_reducible repeat (first | refine blk_drewN ?_ _ | refine blk_drew ?_ | refine blk_alloc ?_ _)); refine blk_put (cs := #[.string t388, .int .i64 t389, .int .i64 t390, .int .i64 t391, .int .i64 t392, .int .i64 0]) ?_ 5 _ rfl; (with_reducible repeat (first | refine blk_drewN ?_ _ | refine blk_drew ?_ | refine blk_alloc ?_ _)); refine blk_put (cs := #[.string t388, .int .i64 t389, .int .i64 t390, .int .i64 t391, .int .i64 0, .int .i64 0]) ?_ 4 _ rfl; (with_reducible repeat (first | refine blk_drewN ?_ _ | refine blk_drew ?_ | refine blk_alloc ?_ _)); refine blk_put (cs := #[.string t388, .int .i64 t389, .int .i64 t390, .int .i64 0, .int .i64 0, .int .i64 0]) ?_ 3 _ rfl; (with_reducible repeat (first | refine blk_drewN ?_ _ | refine blk_drew ?_ | refine blk_alloc ?_ _)); refine blk_put (cs := #[.string t388, .int .i64 t389, .int .i64 0, .int .i64 0, .int .i64 0, .int .i64 0]) ?_ 2 _ rfl; (with_reducible repeat (first | refine blk_drewN ?_ _ | refine blk_drew ?_ | refine blk_alloc ?_ _)); refine blk_put (cs := #[.string t388, .int .i64 0, .int .i64 0, .int .i64 0, .int .i64 0, .int .i64 0]) ?_ 1 _ rfl; (with_reducible repeat (first | refine blk_drewN ?_ _ | refine blk_drew ?_ | refine blk_alloc ?_ _)); refine blk_put (cs := #[.string (⟨#[]⟩ : ByteArray), .int .i64 0, .int .i64 0, .int .i64 0, .int .i64 0, .int .i64 0]) ?_ 0 _ rfl; (with_reducible repeat (first | refine blk_drewN ?_ _ | refine blk_drew ?_ | refine blk_alloc ?_ _)); exact BK395.out⟩, ⟨by repeat (first | (with_reducible first | exact HB.out | apply below_alloc | apply pw_below_drewN | apply below_drew1 | refine below_set ?_ GE386.out | refine below_set ?_ GE394.out | refine below_set ?_ GE395.out) | exact HB.out)⟩⟩
            · rw [if_neg c37] at H
              have c37b0 : ((ji6) == 3) = false := beq_eq_false_iff_ne.mpr c37
              have c37b1 : ((ji6) != 3) = true := bne_iff_ne.mpr c37
              by_cases c43 : (ji6) = 4
              · rw [if_pos c43] at H
                have c43b0 : ((ji6) == 4) = true := beq_iff_eq.mpr c43
                have c43b1 : ((ji6) != 4) = false := bne_eq_false_iff_eq.mpr c43
                clear c43
                have H' := Aside0.mk H
                clear H
                have hnb44 := NB394_386.out
                have hnc44 := NB386_394.out
                have hnb45 := NB394_395.out
                have hnc45 := NB395_394.out
                have hcz46_0 : w15.cell? ⟨gb394, 0, none⟩ = some (.string t388) := bc BK394 0
                have hcz46_1 : w15.cell? ⟨gb394, 1, none⟩ = some (.int .i64 t389) := bc BK394 1
                have hcz46_2 : w15.cell? ⟨gb394, 2, none⟩ = some (.int .i64 t390) := bc BK394 2
                have hcz46_3 : w15.cell? ⟨gb394, 3, none⟩ = some (.int .i64 t391) := bc BK394 3
                have hcz46_4 : w15.cell? ⟨gb394, 4, none⟩ = some (.int .i64 t392) := bc BK394 4
                have hcz46_5 : w15.cell? ⟨gb394, 5, none⟩ = some (.int .i64 t393) := bc BK394 5
                have hfz46_0 := blk_frozen BK394.out 0
                have hfz46_1 := blk_frozen BK394.out 1
                have hfz46_2 := blk_frozen BK394.out 2
                have hfz46_3 := blk_frozen BK394.out 3
                have hfz46_4 := blk_frozen BK394.out 4
                have hfz46_5 := blk_frozen BK394.out 5
                have hnb47 := NB395_386.out
                have hnc47 := NB386_395.out
                have hcz48_0 : w15.cell? ⟨gb395, 0, none⟩ = some (.string (⟨#[]⟩ : ByteArray)) := bc BK395 0
                have hcz48_1 : w15.cell? ⟨gb395, 1, none⟩ = some (.int .i64 0) := bc BK395 1
                have hcz48_2 : w15.cell? ⟨gb395, 2, none⟩ = some (.int .i64 0) := bc BK395 2
                have hcz48_3 : w15.cell? ⟨gb395, 3, none⟩ = some (.int .i64 0) := bc BK395 3
                have hcz48_4 : w15.cell? ⟨gb395, 4, none⟩ = some (.int .i64 0) := bc BK395 4
                have hcz48_5 : w15.cell? ⟨gb395, 5, none⟩ = some (.int .i64 0) := bc BK395 5
                have hfz48_0 := blk_frozen BK395.out 0
                have hfz48_1 := blk_frozen BK395.out 1
                have hfz48_2 := blk_frozen BK395.out 2
                have hfz48_3 := blk_frozen BK395.out 3
                have hfz48_4 := blk_frozen BK395.out 4
                have hfz48_5 := blk_frozen BK395.out 5
                go_wp2_with (first | (go_at_call 15; refine (damperlaw2_within.keep _ _ rfl (by first | decide | assumption | exact wi_ne (by assumption) | exact wi_ne' (by assumption) | omega) _).mono ?_; rintro e w' ⟨rfl, rfl⟩))
                go_meet
                case rel => exact ⟨_, (t389), (t390), (t391), (t392), (30), (t389), (t390), (t391), (t392), (31), H', ⟨by first | omega | exact Nat.le_refl _⟩, ⟨by (with_reducible repeat (first | refine blk_drewN ?_ _ | refine blk_drew ?_ | refine blk_alloc ?_ _)); refine blk_far ?_ NB386_395.out _; (with_reducible repeat (first | refine blk_drewN ?_ _ | refine blk_drew ?_ | refine blk_alloc ?_ _)); refine blk_far ?_ NB386_394.out _; (repeat ((with_reducible repeat (first | refine blk_drewN ?_ _ | refine blk_drew ?_ | refine blk_alloc ?_ _)); with_reducible refine blk_far ?_ NB386_395.out _)); (with_reducible repeat (first | refine blk_drewN ?_ _ | refine blk_drew ?_ | refine blk_alloc ?_ _)); exact BK386.out⟩, ⟨by (with_reducible repeat (first | refine blk_drewN ?_ _ | refine blk_drew ?_ | refine blk_alloc ?_ _)); refine blk_far ?_ NB394_395.out _; (with_reducible repeat (first | refine blk_drewN ?_ _ | refine blk_drew ?_ | refine blk_alloc ?_ _)); refine blk_put (cs := #[.string t388, .int .i64 t389, .int .i64 t390, .int .i64 t391, .int .i64 t392, .int .i64 t393]) ?_ 5 _ rfl; (repeat ((with_reducible repeat (first | refine blk_drewN ?_ _ | refine blk_drew ?_ | refine blk_alloc ?_ _)); with_reducible refine blk_far ?_ NB394_395.out _)); (with_reducible repeat (first | refine blk_drewN ?_ _ | refine blk_drew ?_ | refine blk_alloc ?_ _)); exact BK394.out⟩, ⟨by (with_reducible repeat (first | refine blk_drewN ?_ _ | refine blk_drew ?_ | refine blk_alloc ?_ _)); refine blk_put (cs := #[.string t388, .int .i64 t389, .int .i64 t390, .int .i64 t391, .int .i64 t392, .int .i64 t393]) ?_ 5 _ rfl; (with_reducible repeat (first | refine blk_drewN ?_ _ | refine blk_drew ?_ | refine blk_alloc ?_ _)); refine blk_far ?_ NB395_394.out _; (with_reducible repeat (first | refine blk_drewN ?_ _ | refine blk_drew ?_ | refine blk_alloc ?_ _)); refine blk_put (cs := #[.string t388, .int .i64 t389, .int .i64 t390, .int .i64 t391, .int .i64 t392, .int .i64 0]) ?_ 5 _ rfl; (with_reducible repeat (first | refine blk_drewN ?_ _ | refine blk_drew ?_ | refine blk_alloc ?_ _)); refine blk_put (cs := #[.string t388, .int .i64 t389, .int .i64 t390, .int .i64 t391, .int .i64 0, .int .i64 0]) ?_ 4 _ rfl; (with_reducible repeat (first | refine blk_drewN ?_ _ | refine blk_drew ?_ | refine blk_alloc ?_ _)); refine blk_put (cs := #[.string t388, .int .i64 t389, .int .i64 t390, .int .i64 0, .int .i64 0, .int .i64 0]) ?_ 3 _ rfl; (with_reducible repeat (first | refine blk_drewN ?_ _ | refine blk_drew ?_ | refine blk_alloc ?_ _)); refine blk_put (cs := #[.string t388, .int .i64 t389, .int .i64 0, .int .i64 0, .int .i64 0, .int .i64 0]) ?_ 2 _ rfl; (with_reducible repeat (first | refine blk_drewN ?_ _ | refine blk_drew ?_ | refine blk_alloc ?_ _)); refine blk_put (cs := #[.string t388, .int .i64 0, .int .i64 0, .int .i64 0, .int .i64 0, .int .i64 0]) ?_ 1 _ rfl; (with_reducible repeat (first | refine blk_drewN ?_ _ | refine blk_drew ?_ | refine blk_alloc ?_ _)); refine blk_put (cs := #[.string (⟨#[]⟩ : ByteArray), .int .i64 0, .int .i64 0, .int .i64 0, .int .i64 0, .int .i64 0]) ?_ 0 _ rfl; (with_reducible repeat (first | refine blk_drewN ?_ _ | refine blk_drew ?_ | refine blk_alloc ?_ _)); exact BK395.out⟩, ⟨by repeat (first | (with_reducible first | exact HB.out | apply below_alloc | apply pw_below_drewN | apply below_drew1 | refine below_set ?_ GE386.out | refine below_set ?_ GE394.out | refine below_set ?_ GE395.out) | exact HB.out)⟩⟩
              · rw [if_neg c43] at H
                have c43b0 : ((ji6) == 4) = false := beq_eq_false_iff_ne.mpr c43
                have c43b1 : ((ji6) != 4) = true := bne_iff_ne.mpr c43
                by_cases c49 : (ji6) = 5
                · rw [if_pos c49] at H
                  have c49b0 : ((ji6) == 5) = true := beq_iff_eq.mpr c49
                  have c49b1 : ((ji6) != 5) = false := bne_eq_false_iff_eq.mpr c49
                  clear c49
                  have H' := Aside0.mk H
                  clear H
                  have hnb50 := NB394_386.out
                  have hnc50 := NB386_394.out
                  have hnb51 := NB394_395.out
                  have hnc51 := NB395_394.out
                  have hcz52_0 : w15.cell? ⟨gb394, 0, none⟩ = some (.string t388) := bc BK394 0
                  have hcz52_1 : w15.cell? ⟨gb394, 1, none⟩ = some (.int .i64 t389) := bc BK394 1
                  have hcz52_2 : w15.cell? ⟨gb394, 2, none⟩ = some (.int .i64 t390) := bc BK394 2
                  have hcz52_3 : w15.cell? ⟨gb394, 3, none⟩ = some (.int .i64 t391) := bc BK394 3
                  have hcz52_4 : w15.cell? ⟨gb394, 4, none⟩ = some (.int .i64 t392) := bc BK394 4
                  have hcz52_5 : w15.cell? ⟨gb394, 5, none⟩ = some (.int .i64 t393) := bc BK394 5
                  have hfz52_0 := blk_frozen BK394.out 0
                  have hfz52_1 := blk_frozen BK394.out 1
                  have hfz52_2 := blk_frozen BK394.out 2
                  have hfz52_3 := blk_frozen BK394.out 3
                  have hfz52_4 := blk_frozen BK394.out 4
                  have hfz52_5 := blk_frozen BK394.out 5
                  have hnb53 := NB395_386.out
                  have hnc53 := NB386_395.out
                  have hcz54_0 : w15.cell? ⟨gb395, 0, none⟩ = some (.string (⟨#[]⟩ : ByteArray)) := bc BK395 0
                  have hcz54_1 : w15.cell? ⟨gb395, 1, none⟩ = some (.int .i64 0) := bc BK395 1
                  have hcz54_2 : w15.cell? ⟨gb395, 2, none⟩ = some (.int .i64 0) := bc BK395 2
                  have hcz54_3 : w15.cell? ⟨gb395, 3, none⟩ = some (.int .i64 0) := bc BK395 3
                  have hcz54_4 : w15.cell? ⟨gb395, 4, none⟩ = some (.int .i64 0) := bc BK395 4
                  have hcz54_5 : w15.cell? ⟨gb395, 5, none⟩ = some (.int .i64 0) := bc BK395 5
                  have hfz54_0 := blk_frozen BK395.out 0
                  have hfz54_1 := blk_frozen BK395.out 1
                  have hfz54_2 := blk_frozen BK395.out 2
                  have hfz54_3 := blk_frozen BK395.out 3
                  have hfz54_4 := blk_frozen BK395.out 4
                  have hfz54_5 := blk_frozen BK395.out 5
                  go_wp2_with (first | (go_at_call 15; refine (damperlaw2_within.keep _ _ rfl (by first | decide | assumption | exact wi_ne (by assumption) | exact wi_ne' (by assumption) | omega) _).mono ?_; rintro e w' ⟨rfl, rfl⟩))
                  go_meet
                  case rel => exact ⟨_, (255), (t390), (t391), (t392), (t393), (256), (t390), (t391), (t392), (t393), H', ⟨by first | omega | exact Nat.le_refl _⟩, ⟨by (with_reducible repeat (first | refine blk_drewN ?_ _ | refine blk_drew ?_ | refine blk_alloc ?_ _)); refine blk_far ?_ NB386_395.out _; (with_reducible repeat (first | refine blk_drewN ?_ _ | refine blk_drew ?_ | refine blk_alloc ?_ _)); refine blk_far ?_ NB386_394.out _; (repeat ((with_reducible repeat (first | refine blk_drewN ?_ _ | refine blk_drew ?_ | refine blk_alloc ?_ _)); with_reducible refine blk_far ?_ NB386_395.out _)); (with_reducible repeat (first | refine blk_drewN ?_ _ | refine blk_drew ?_ | refine blk_alloc ?_ _)); exact BK386.out⟩, ⟨by (with_reducible repeat (first | refine blk_drewN ?_ _ | refine blk_drew ?_ | refine blk_alloc ?_ _)); refine blk_far ?_ NB394_395.out _; (with_reducible repeat (first | refine blk_drewN ?_ _ | refine blk_drew ?_ | refine blk_alloc ?_ _)); refine blk_put (cs := #[.string t388, .int .i64 t389, .int .i64 t390, .int .i64 t391, .int .i64 t392, .int .i64 t393]) ?_ 1 _ rfl; (repeat ((with_reducible repeat (first | refine blk_drewN ?_ _ | refine blk_drew ?_ | refine blk_alloc ?_ _)); with_reducible refine blk_far ?_ NB394_395.out _)); (with_reducible repeat (first | refine blk_drewN ?_ _ | refine blk_drew ?_ | refine blk_alloc ?_ _)); exact BK394.out⟩, ⟨by (with_reducible repeat (first | refine blk_drewN ?_ _ | refine blk_drew ?_ | refine blk_alloc ?_ _)); refine blk_put (cs := #[.string t388, .int .i64 t389, .int .i64 t390, .int .i64 t391, .int .i64 t392, .int .i64 t393]) ?_ 1 _ rfl; (with_reducible repeat (first | refine blk_drewN ?_ _ | refine blk_drew ?_ | refine blk_alloc ?_ _)); refine blk_far ?_ NB395_394.out _; (with_reducible repeat (first | refine blk_drewN ?_ _ | refine blk_drew ?_ | refine blk_alloc ?_ _)); refine blk_put (cs := #[.string t388, .int .i64 t389, .int .i64 t390, .int .i64 t391, .int .i64 t392, .int .i64 0]) ?_ 5 _ rfl; (with_reducible repeat (first | refine blk_drewN ?_ _ | refine blk_drew ?_ | refine blk_alloc ?_ _)); refine blk_put (cs := #[.string t388, .int .i64 t389, .int .i64 t390, .int .i64 t391, .int .i64 0, .int .i64 0]) ?_ 4 _ rfl; (with_reducible repeat (first | refine blk_drewN ?_ _ | refine blk_drew ?_ | refine blk_alloc ?_ _)); refine blk_put (cs := #[.string t388, .int .i64 t389, .int .i64 t390, .int .i64 0, .int .i64 0, .int .i64 0]) ?_ 3 _ rfl; (with_reducible repeat (first | refine blk_drewN ?_ _ | refine blk_drew ?_ | refine blk_alloc ?_ _)); refine blk_put (cs := #[.string t388, .int .i64 t389, .int .i64 0, .int .i64 0, .int .i64 0, .int .i64 0]) ?_ 2 _ rfl; (with_reducible repeat (first | refine blk_drewN ?_ _ | refine blk_drew ?_ | refine blk_alloc ?_ _)); refine blk_put (cs := #[.string t388, .int .i64 0, .int .i64 0, .int .i64 0, .int .i64 0, .int .i64 0]) ?_ 1 _ rfl; (with_reducible repeat (first | refine blk_drewN ?_ _ | refine blk_drew ?_ | refine blk_alloc ?_ _)); refine blk_put (cs := #[.string (⟨#[]⟩ : ByteArray), .int .i64 0, .int .i64 0, .int .i64 0, .int .i64 0, .int .i64 0]) ?_ 0 _ rfl; (with_reducible repeat (first | refine blk_drewN ?_ _ | refine blk_drew ?_ | refine blk_alloc ?_ _)); exact BK395.out⟩, ⟨by repeat (first | (with_reducible first | exact HB.out | apply below_alloc | apply pw_below_drewN | apply below_drew1 | refine below_set ?_ GE386.out | refine below_set ?_ GE394.out | refine below_set ?_ GE395.out) | exact HB.out)⟩⟩
                · rw [if_neg c49] at H
                  have c49b0 : ((ji6) == 5) = false := beq_eq_false_iff_ne.mpr c49
                  have c49b1 : ((ji6) != 5) = true := bne_iff_ne.mpr c49
                  have H' := Aside0.mk H
                  clear H
                  go_wp2_with (first | (go_at_call 15; refine (damperlaw2_within.keep _ _ rfl (by first | decide | assumption | exact wi_ne (by assumption) | exact wi_ne' (by assumption) | omega) _).mono ?_; rintro e w' ⟨rfl, rfl⟩))
                  go_meet
                  case rel => exact ⟨_, (t389), (t390), (t391), (t392), (t393), (t389), (t390), (t391), (t392), (t393), H', ⟨by first | omega | exact Nat.le_refl _⟩, ⟨by (repeat ((with_reducible repeat (first | refine blk_drewN ?_ _ | refine blk_drew ?_ | refine blk_alloc ?_ _)); with_reducible refine blk_far ?_ NB386_395.out _)); (with_reducible repeat (first | refine blk_drewN ?_ _ | refine blk_drew ?_ | refine blk_alloc ?_ _)); exact BK386.out⟩, ⟨by (repeat ((with_reducible repeat (first | refine blk_drewN ?_ _ | refine blk_drew ?_ | refine blk_alloc ?_ _)); with_reducible refine blk_far ?_ NB394_395.out _)); (with_reducible repeat (first | refine blk_drewN ?_ _ | refine blk_drew ?_ | refine blk_alloc ?_ _)); exact BK394.out⟩, ⟨by (with_reducible repeat (first | refine blk_drewN ?_ _ | refine blk_drew ?_ | refine blk_alloc ?_ _)); refine blk_put (cs := #[.string t388, .int .i64 t389, .int .i64 t390, .int .i64 t391, .int .i64 t392, .int .i64 0]) ?_ 5 _ rfl; (with_reducible repeat (first | refine blk_drewN ?_ _ | refine blk_drew ?_ | refine blk_alloc ?_ _)); refine blk_put (cs := #[.string t388, .int .i64 t389, .int .i64 t390, .int .i64 t391, .int .i64 0, .int .i64 0]) ?_ 4 _ rfl; (with_reducible repeat (first | refine blk_drewN ?_ _ | refine blk_drew ?_ | refine blk_alloc ?_ _)); refine blk_put (cs := #[.string t388, .int .i64 t389, .int .i64 t390, .int .i64 0, .int .i64 0, .int .i64 0]) ?_ 3 _ rfl; (with_reducible repeat (first | refine blk_drewN ?_ _ | refine blk_drew ?_ | refine blk_alloc ?_ _)); refine blk_put (cs := #[.string t388, .int .i64 t389, .int .i64 0, .int .i64 0, .int .i64 0, .int .i64 0]) ?_ 2 _ rfl; (with_reducible repeat (first | refine blk_drewN ?_ _ | refine blk_drew ?_ | refine blk_alloc ?_ _)); refine blk_put (cs := #[.string t388, .int .i64 0, .int .i64 0, .int .i64 0, .int .i64 0, .int .i64 0]) ?_ 1 _ rfl; (with_reducible repeat (first | refine blk_drewN ?_ _ | refine blk_drew ?_ | refine blk_alloc ?_ _)); refine blk_put (cs := #[.string (⟨#[]⟩ : ByteArray), .int .i64 0, .int .i64 0, .int .i64 0, .int .i64 0, .int .i64 0]) ?_ 0 _ rfl; (with_reducible repeat (first | refine blk_drewN ?_ _ | refine blk_drew ?_ | refine blk_alloc ?_ _)); exact BK395.out⟩, ⟨by repeat (first | (with_reducible first | exact HB.out | apply below_alloc | apply pw_below_drewN | apply below_drew1 | refine below_set ?_ GE386.out | refine below_set ?_ GE394.out | refine below_set ?_ GE395.out) | exact HB.out)⟩⟩
    case rest =>
      clear HC7
      try clear c1
      try clear c2
      try clear p2
      try clear c3
      try clear c4
      try clear c5
      try clear p6
      try clear c8
      try clear c11
      try clear c12
      try clear c13
      try clear c16
      try clear c17
      try clear c19
      try clear c19b0
      try clear c19b1
      try clear c20
      try clear c21
      try clear c23
      try clear c25
      try clear c25b0
      try clear c25b1
      try clear c26
      try clear c27
      try clear c29
      try clear c31
      try clear c31b0
      try clear c31b1
      try clear c32
      try clear c33
      try clear c35
      try clear c37
      try clear c37b0
      try clear c37b1
      try clear c38
      try clear c39
      try clear c41
      try clear c43
      try clear c43b0
      try clear c43b1
      try clear c44
      try clear c45
      try clear c47
      try clear c49
      try clear c49b0
      try clear c49b1
      try clear c50
      try clear c51
      try clear c53
      try clear hcz10_0
      try clear hcz10_1
      try clear hcz10_2
      try clear hcz10_3
      try clear hcz10_4
      try clear hcz10_5
      try clear hcz14_0
      try clear hcz14_1
      try clear hcz14_2
      try clear hcz14_3
      try clear hcz14_4
      try clear hcz14_5
      try clear hcz18_0
      try clear hcz18_1
      try clear hcz18_2
      try clear hcz18_3
      try clear hcz18_4
      try clear hcz18_5
      try clear hcz22_0
      try clear hcz22_1
      try clear hcz22_2
      try clear hcz22_3
      try clear hcz22_4
      try clear hcz22_5
      try clear hcz24_0
      try clear hcz24_1
      try clear hcz24_2
      try clear hcz24_3
      try clear hcz24_4
      try clear hcz24_5
      try clear hcz28_0
      try clear hcz28_1
      try clear hcz28_2
      try clear hcz28_3
      try clear hcz28_4
      try clear hcz28_5
      try clear hcz30_0
      try clear hcz30_1
      try clear hcz30_2
      try clear hcz30_3
      try clear hcz30_4
      try clear hcz30_5
      try clear hcz34_0
      try clear hcz34_1
      try clear hcz34_2
      try clear hcz34_3
      try clear hcz34_4
      try clear hcz34_5
      try clear hcz36_0
      try clear hcz36_1
      try clear hcz36_2
      try clear hcz36_3
      try clear hcz36_4
      try clear hcz36_5
      try clear hcz40_0
      try clear hcz40_1
      try clear hcz40_2
      try clear hcz40_3
      try clear hcz40_4
      try clear hcz40_5
      try clear hcz42_0
      try clear hcz42_1
      try clear hcz42_2
      try clear hcz42_3
      try clear hcz42_4
      try clear hcz42_5
      try clear hcz46_0
      try clear hcz46_1
      try clear hcz46_2
      try clear hcz46_3
      try clear hcz46_4
      try clear hcz46_5
      try clear hcz48_0
      try clear hcz48_1
      try clear hcz48_2
      try clear hcz48_3
      try clear hcz48_4
      try clear hcz48_5
      try clear hcz52_0
      try clear hcz52_1
      try clear hcz52_2
      try clear hcz52_3
      try clear hcz52_4
      try clear hcz52_5
      try clear hcz54_0
      try clear hcz54_1
      try clear hcz54_2
      try clear hcz54_3
      try clear hcz54_4
      try clear hcz54_5
      try clear hfz10_0
      try clear hfz10_1
      try clear hfz10_2
      try clear hfz10_3
      try clear hfz10_4
      try clear hfz10_5
      try clear hfz14_0
      try clear hfz14_1
      try clear hfz14_2
      try clear hfz14_3
      try clear hfz14_4
      try clear hfz14_5
      try clear hfz18_0
      try clear hfz18_1
      try clear hfz18_2
      try clear hfz18_3
      try clear hfz18_4
      try clear hfz18_5
      try clear hfz22_0
      try clear hfz22_1
      try clear hfz22_2
      try clear hfz22_3
      try clear hfz22_4
      try clear hfz22_5
      try clear hfz24_0
      try clear hfz24_1
      try clear hfz24_2
      try clear hfz24_3
      try clear hfz24_4
      try clear hfz24_5
      try clear hfz28_0
      try clear hfz28_1
      try clear hfz28_2
      try clear hfz28_3
      try clear hfz28_4
      try clear hfz28_5
      try clear hfz30_0
      try clear hfz30_1
      try clear hfz30_2
      try clear hfz30_3
      try clear hfz30_4
      try clear hfz30_5
      try clear hfz34_0
      try clear hfz34_1
      try clear hfz34_2
      try clear hfz34_3
      try clear hfz34_4
      try clear hfz34_5
      try clear hfz36_0
      try clear hfz36_1
      try clear hfz36_2
      try clear hfz36_3
      try clear hfz36_4
      try clear hfz36_5
      try clear hfz40_0
      try clear hfz40_1
      try clear hfz40_2
      try clear hfz40_3
      try clear hfz40_4
      try clear hfz40_5
      try clear hfz42_0
      try clear hfz42_1
      try clear hfz42_2
      try clear hfz42_3
      try clear hfz42_4
      try clear hfz42_5
      try clear hfz46_0
      try clear hfz46_1
      try clear hfz46_2
      try clear hfz46_3
      try clear hfz46_4
      try clear hfz46_5
      try clear hfz48_0
      try clear hfz48_1
      try clear hfz48_2
      try clear hfz48_3
      try clear hfz48_4
      try clear hfz48_5
      try clear hfz52_0
      try clear hfz52_1
      try clear hfz52_2
      try clear hfz52_3
      try clear hfz52_4
      try clear hfz52_5
      try clear hfz54_0
      try clear hfz54_1
      try clear hfz54_2
      try clear hfz54_3
      try clear hfz54_4
      try clear hfz54_5
      obtain ⟨kq, x395001_6, x395002_6, x395003_6, x395004_6, x395005_6, x396001_6, x396002_6, x396003_6, x396004_6, x396005_6, HA, HJ6, BK386, BK394, BK395, HB⟩ := hcut
      cases kq with
      | zero => exact absurd HA.out (by simp [damperlaw2_SpecEdges.j0])
      | succ kj6 =>
        have H := HA.out
        clear HA
        simp only [damperlaw2_SpecEdges.j0] at H
        replace H := Option.bind_eq_some_iff.mp H
        obtain ⟨t396, A550, H⟩ := H
        replace H : (if t396 = 0 then ((spec_Config.f kj6 t388 x396001_6 x396002_6 x396003_6 x396004_6 x396005_6).bind fun t397 => (some (t397 == 2))) else (some false)) = some r := H
        have A55 := Aside0.mk A550
        clear A550
        by_cases c56 : t396 = 0
        rotate_left
        · rw [if_neg c56] at H
          have c56b0 : (t396 == 0) = false := beq_eq_false_iff_ne.mpr c56
          have c56b1 : (t396 != 0) = true := bne_iff_ne.mpr c56
          exact absurd (Option.some.inj H) (by rw [hr0_.out]; decide)
        rw [if_pos c56] at H
        have c56b0 : (t396 == 0) = true := beq_iff_eq.mpr c56
        have c56b1 : (t396 != 0) = false := bne_eq_false_iff_eq.mpr c56
        clear c56
        replace H := Option.bind_eq_some_iff.mp H
        obtain ⟨t397, A570, H⟩ := H
        replace H : (some (t397 == 2)) = some r := H
        have A57 := Aside0.mk A570
        clear A570
        obtain rfl := Option.some.inj H
        have hnb58 := NB394_386.out
        have hnc58 := NB386_394.out
        have hnb59 := NB394_395.out
        have hnc59 := NB395_394.out
        have hcz60_0 : wc.cell? ⟨gb394, 0, none⟩ = some (.string t388) := bc BK394 0
        have hcz60_1 : wc.cell? ⟨gb394, 1, none⟩ = some (.int .i64 x395001_6) := bc BK394 1
        have hcz60_2 : wc.cell? ⟨gb394, 2, none⟩ = some (.int .i64 x395002_6) := bc BK394 2
        have hcz60_3 : wc.cell? ⟨gb394, 3, none⟩ = some (.int .i64 x395003_6) := bc BK394 3
        have hcz60_4 : wc.cell? ⟨gb394, 4, none⟩ = some (.int .i64 x395004_6) := bc BK394 4
        have hcz60_5 : wc.cell? ⟨gb394, 5, none⟩ = some (.int .i64 x395005_6) := bc BK394 5
        have hfz60_0 := blk_frozen BK394.out 0
        have hfz60_1 := blk_frozen BK394.out 1
        have hfz60_2 := blk_frozen BK394.out 2
        have hfz60_3 := blk_frozen BK394.out 3
        have hfz60_4 := blk_frozen BK394.out 4
        have hfz60_5 := blk_frozen BK394.out 5
        go_wp2_with (first | (go_at_call 15; refine (damperlaw2_within.keep _ _ rfl (by first | decide | assumption | exact wi_ne (by assumption) | exact wi_ne' (by assumption) | omega) _).mono ?_; rintro e w' ⟨rfl, rfl⟩) | ((with_reducible refine gate_callee (f := 13) rfl ?_); refine goesL_ (some 44) rfl rfl Tryd.func13 (by kernel_rfl) rfl #[.agg #[.string t388, .int .i64 x395001_6, .int .i64 x395002_6, .int .i64 x395003_6, .int .i64 x395004_6, .int .i64 x395005_6]] rfl (by (try simp only [List.map_toArray, List.map_cons, List.map_nil]); first | done | rfl | (simp only [List.length_drop, List.length_take]; rfl)) ?_; (with_reducible refine (spec_Config.calls kj6 t388 x395001_6 x395002_6 x395003_6 x395004_6 x395005_6 t396 _ A55.out).mono ?_); rintro e w61 ⟨rfl, hb⟩; refine ⟨_, rfl, ?_⟩; have n0_ := Aside0.mk (blk_below (g := gb386) (pk BK386) hb); have n1_ := Aside0.mk (blk_below (g := gb394) (pk BK394) hb); have n2_ := Aside0.mk (blk_below (g := gb395) (pk BK395) hb); have n3_ := Aside0.mk (below_step (by repeat (first | (with_reducible first | exact HB.out | apply below_alloc | apply pw_below_drewN | apply below_drew1 | refine below_set ?_ GE386.out | refine below_set ?_ GE394.out | refine below_set ?_ GE395.out) | exact HB.out)) hb); clear BK386; clear BK394; clear BK395; clear HB; have BK386 := n0_; have BK394 := n1_; have BK395 := n2_; have HB := n3_; clear n0_ n1_ n2_ n3_; (try clear hb); (try clear hb2); (try clear hk); (try clear hi); have hnb62 := NB395_386.out; have hnc62 := NB386_395.out; have hcz63_0 : w61.cell? ⟨gb395, 0, none⟩ = some (.string t388) := bc BK395 0; have hcz63_1 : w61.cell? ⟨gb395, 1, none⟩ = some (.int .i64 x396001_6) := bc BK395 1; have hcz63_2 : w61.cell? ⟨gb395, 2, none⟩ = some (.int .i64 x396002_6) := bc BK395 2; have hcz63_3 : w61.cell? ⟨gb395, 3, none⟩ = some (.int .i64 x396003_6) := bc BK395 3; have hcz63_4 : w61.cell? ⟨gb395, 4, none⟩ = some (.int .i64 x396004_6) := bc BK395 4; have hcz63_5 : w61.cell? ⟨gb395, 5, none⟩ = some (.int .i64 x396005_6) := bc BK395 5; have hfz63_0 := blk_frozen BK395.out 0; have hfz63_1 := blk_frozen BK395.out 1; have hfz63_2 := blk_frozen BK395.out 2; have hfz63_3 := blk_frozen BK395.out 3; have hfz63_4 := blk_frozen BK395.out 4; have hfz63_5 := blk_frozen BK395.out 5) | (go_at_call 13; (with_reducible refine (spec_Config.calls kj6 t388 x396001_6 x396002_6 x396003_6 x396004_6 x396005_6 t397 _ A57.out).mono ?_); rintro e w64 ⟨rfl, hb⟩; have n0_ := Aside0.mk (blk_below (g := gb386) (pk BK386) hb); have n1_ := Aside0.mk (blk_below (g := gb394) (pk BK394) hb); have n2_ := Aside0.mk (blk_below (g := gb395) (pk BK395) hb); have n3_ := Aside0.mk (below_step (by repeat (first | (with_reducible first | exact HB.out | apply below_alloc | apply pw_below_drewN | apply below_drew1 | refine below_set ?_ GE386.out | refine below_set ?_ GE394.out | refine below_set ?_ GE395.out) | exact HB.out)) hb); clear BK386; clear BK394; clear BK395; clear HB; have BK386 := n0_; have BK394 := n1_; have BK395 := n2_; have HB := n3_; clear n0_ n1_ n2_ n3_; (try clear hb); (try clear hb2); (try clear hk); (try clear hi)))
        go_ret
        exact ⟨by first | rfl | (simp [errW_none, errW_some] <;> rfl) | (simp only [← hji6]; first | rfl | (simp [errW_none, errW_some] <;> rfl)) | (simp [*, errW_none, errW_some] <;> rfl), by repeat (first | (with_reducible first | exact HB.out | apply below_alloc | apply pw_below_drewN | apply below_drew1 | refine below_set ?_ GE386.out | refine below_set ?_ GE394.out | refine below_set ?_ GE395.out) | exact HB.out)⟩
  · replace c4 := Bool.eq_false_iff.mpr c4
    subst c4
    have H1 : (some false) = some r := by rw [if_neg (show ¬ (false = true) by decide)] at H; exact H
    clear H
    have H := H1
    clear H1
    exact absurd (Option.some.inj H) (by rw [hr0_.out]; decide)

/-- THE ONE PURE STATEMENT of damperlaw2_SpecEdges: yours. -/
def damperlaw2_SpecEdges.Pure : Prop := ∀ (a0 : Int) (a1_0 : ByteArray) (a1_1 : Int) (a1_2 : Int) (a1_3 : Int) (a1_4 : Int) (a1_5 : Int), ((Lit.int .i64 a0).wf = true) → (a1_0.size ≤ maxLen) → ((Lit.int .i64 a1_1).wf = true) → ((Lit.int .i64 a1_2).wf = true) → ((Lit.int .i64 a1_3).wf = true) → ((Lit.int .i64 a1_4).wf = true) → ((Lit.int .i64 a1_5).wf = true) → ∃ k, damperlaw2_SpecEdges.f k a0 a1_0 a1_1 a1_2 a1_3 a1_4 a1_5 = some true
theorem damperlaw2_SpecEdges.walk (P : damperlaw2_SpecEdges.Pure) (a0 : Int) (a1_0 : ByteArray) (a1_1 : Int) (a1_2 : Int) (a1_3 : Int) (a1_4 : Int) (a1_5 : Int) (w : World) (hLd_ : LaidW w) (w0 : (Lit.int .i64 a0).wf = true) (w1_0 : a1_0.size ≤ maxLen) (w1_1 : (Lit.int .i64 a1_1).wf = true) (w1_2 : (Lit.int .i64 a1_2).wf = true) (w1_3 : (Lit.int .i64 a1_3).wf = true) (w1_4 : (Lit.int .i64 a1_4).wf = true) (w1_5 : (Lit.int .i64 a1_5).wf = true)  :
    Calls Tryd.prog 8 #[.int .i64 a0, .agg #[.string a1_0, .int .i64 a1_1, .int .i64 a1_2, .int .i64 a1_3, .int .i64 a1_4, .int .i64 a1_5]] w fun e w' => e = .returned (.bool true) ∧ Below w.heap.size w w' := by
  obtain ⟨k, h⟩ := P a0 a1_0 a1_1 a1_2 a1_3 a1_4 a1_5 w0 w1_0 w1_1 w1_2 w1_3 w1_4 w1_5
  refine (damperlaw2_SpecEdges.calls k a0 a1_0 a1_1 a1_2 a1_3 a1_4 a1_5 true w ⟨hLd_⟩ ⟨rfl⟩ h).mono ?_
  rintro e w' ⟨rfl, hd⟩
  exact ⟨rfl, hd⟩

end Go.Proofs.YthdpnbfjpbiieaaDoor.Ma
