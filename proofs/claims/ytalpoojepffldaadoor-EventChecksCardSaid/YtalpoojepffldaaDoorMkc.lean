/- Arms of Make: what each kind of event is made of (config, route, turn). -/
import Derived.Test.YtalpoojepffldaaDoorMax0
import Derived.Test.YtalpoojepffldaaDoorPb
import Derived.Test.YtalpoojepffldaaDoorPc
import Derived.Test.YtalpoojepffldaaDoorMka
import Derived.Lib.Hide
namespace Go.Proofs.YtalpoojepffldaaDoor.Ma
open Go.RowKit Go.Proofs.YtalpoojepffldaaDoorW.PrintWords Go.Proofs.YtalpoojepffldaaDoorW.PrintLast Go.Proofs.YtalpoojepffldaaDoorW.PrintMore
set_option linter.unusedVariables false
set_option linter.unusedSimpArgs false
set_option maxHeartbeats 8000000 in
set_option maxRecDepth 100000 in
theorem mk_config (a0 a1 a2 a3 : Int) (a4 : ByteArray) (a5 a6 a7 a8 a9 : Int) (A5 : Option Addr) (c5 n5 : Nat) (w : World) (r1 : ByteArray) (r2 r3 r4 r5 r6 : Int) (hk : wi a0 13 = 0) (hcfg : damperlaw2_Config.f a4 a5 a6 a7 a8 a9 a3 = some (r1, r2, r3, r4, r5, r6)) :
    Calls Tryd.prog 14 #[.int .i64 a0, .int .i64 a1, .int .i64 a2, .int .i64 a3, .agg #[.string a4, .int .i64 a5, .int .i64 a6, .int .i64 a7, .int .i64 a8, .int .i64 a9], .slice A5 n5 c5] w fun e w' => e = .returned (.agg (eV 1 ⟨#[]⟩ ⟨#[]⟩ (wi a1 30) 0 r1 r2 r3 r4 r5 r6 ⟨#[]⟩ ⟨#[]⟩ (.slice none 0 0) 0)) ∧ Below w.heap.size w w' := by
  obtain ⟨n, hn⟩ : ∃ n, wi a1 30 = n := ⟨_, rfl⟩; have bn := wi_bd hn (by decide) (by decide); rw [hn]; go_enter Tryd.func14, Tryd.ntmps14; go_wp2_with fail; refine (damperlaw3_within.keep a0 13 hk (by decide) _).mono ?_; rintro e w1 ⟨rfl, rfl⟩; go_wp2_with fail; generalize hW : World.alloc (World.alloc (World.alloc (World.alloc w _) _) _) _ = W
  have q_c : W.drew.heap[w.heap.size]? = some (.cells #[.string a4, .int .i64 a5, .int .i64 a6, .int .i64 a7, .int .i64 a8, .int .i64 a9] 23 (0, 0)) := by
    rw [← hW]; refine blk_drew ?_
    repeat (first | exact mk_here (by first | omega | (simp only [World.size_alloc] <;> omega)) | refine mk_skip (by first | omega | (simp only [World.size_alloc] <;> omega)) ?_)
  have q_r : W.drew.heap[w.heap.size + 1]? = some (.cells (eV 0 ⟨#[]⟩ ⟨#[]⟩ 0 0 ⟨#[]⟩ 0 0 0 0 0 ⟨#[]⟩ ⟨#[]⟩ (.slice none 0 0) 0) 28 (0, 0)) := by
    rw [← hW]; refine blk_drew ?_
    repeat (first | exact mk_here (by first | omega | (simp only [World.size_alloc] <;> omega)) | refine mk_skip (by first | omega | (simp only [World.size_alloc] <;> omega)) ?_)
  have q_e : W.drew.heap[w.heap.size + 1 + 1]? = some (.cells (eV 1 ⟨#[]⟩ ⟨#[]⟩ 0 0 ⟨#[]⟩ 0 0 0 0 0 ⟨#[]⟩ ⟨#[]⟩ (.slice none 0 0) 0) 28 (0, 0)) := by
    rw [← hW]; refine blk_drew ?_
    repeat (first | exact mk_here (by first | omega | (simp only [World.size_alloc] <;> omega)) | refine mk_skip (by first | omega | (simp only [World.size_alloc] <;> omega)) ?_)
  have q_n : W.drew.heap[w.heap.size + 1 + 1 + 1]? = some (.cells #[.string ⟨#[102, 114, 111, 110, 116]⟩, .string ⟨#[98, 97, 99, 107]⟩, .string ⟨#[114, 45, 49]⟩] 9 (0, 0)) := by
    rw [← hW]; refine blk_drew ?_
    repeat (first | exact mk_here (by first | omega | (simp only [World.size_alloc] <;> omega)) | refine mk_skip (by first | omega | (simp only [World.size_alloc] <;> omega)) ?_)
  have q_B : Below w.heap.size w W.drew := by
    rw [← hW]; exact below_drew1 (below_alloc (below_alloc (below_alloc (below_alloc (Below.refl _ _) _) _) _) _)
  clear hW; refine start_ (n := 9) (S := fun w' => w'.cell? ⟨w.heap.size, 0, none⟩ = some (.string a4) ∧ w'.cell? ⟨w.heap.size, 1, none⟩ = some (.int .i64 a5) ∧ w'.cell? ⟨w.heap.size, 2, none⟩ = some (.int .i64 a6) ∧ w'.cell? ⟨w.heap.size, 3, none⟩ = some (.int .i64 a7) ∧ w'.cell? ⟨w.heap.size, 4, none⟩ = some (.int .i64 a8) ∧ w'.cell? ⟨w.heap.size, 5, none⟩ = some (.int .i64 a9)) (ds := [4, 6, 8]) (bmz 9 0) (by kernel_rfl) rfl rfl ⟨(blk_cell q_c 0).trans rfl, (blk_cell q_c 1).trans rfl, (blk_cell q_c 2).trans rfl, (blk_cell q_c 3).trans rfl, (blk_cell q_c 4).trans rfl, (blk_cell q_c 5).trans rfl⟩ (fun hHeld => ?_); refine pv_ 0 (some 24) (bmz 9 1) ?_; refine callp_ (i := 1) (N := some 25) (a' := ?a1_) (bmz 9 3) rfl rfl (by kernel_rfl) (fun _ _ _ h => h) (by rfl) Tryd.func17 (by kernel_rfl) rfl rfl (by (try simp only [List.map_toArray, List.map_cons, List.map_nil]); rfl) (damperlaw3_within.same _ _ (r := ?jj1_) ?hj1_ au2) ?ha1_ ?h1_
  (case hj1_ => (try simp only [i64_w, i32_w]); first | assumption | (go_simp; rfl))
  (case ha1_ => simp only [Act.put, List.setIfInBounds_toArray, List.set_cons_zero, List.set_cons_succ, i64_w, i32_w]; rfl)
  refine pv_ 3 (some 27) (bmz 9 11) ?_; refine pv_ 5 (some 29) (bmz 9 43) ?_; refine tv_ 2 (some 26) (bmz 9 47) hHeld ?_; refine last_ (i := 4) (N := some 28) (bmz 9 63) rfl rfl (by kernel_rfl) (by decide) (fun K hK => ?_); refine goes_ Tryd.func27 (by kernel_rfl) rfl #[.agg #[.string a4, .int .i64 a5, .int .i64 a6, .int .i64 a7, .int .i64 a8, .int .i64 a9], .int .i64 a3] (by rfl) rfl rfl (by simp only [List.map_toArray, List.map_cons, List.map_nil]; rfl) ?_; (with_reducible refine (damperlaw2_Config.calls a4 a5 a6 a7 a8 a9 a3 r1 r2 r3 r4 r5 r6 _ hcfg).mono ?_); rintro e w4 ⟨rfl, hb⟩; refine ⟨_, rfl, ?_⟩; refine hK.out _ _ ?_; clear hK K; refine no_ (some 28) ?_; refine last_ (i := 6) (N := none) (bmz 9 127) rfl rfl (by kernel_rfl) (by decide) (fun K hK => ?_); have b0 := blk_below q_r hb; have b1 := blk_below q_e hb; have HB := below_step q_B hb; obtain ⟨zr0, zr1, zr2, zr3, zr4, zr5, zr6, zr7, zr8, zr9, zr10, zr11, zr12, zr13, zr14⟩ := cells15 (show w4.heap[w.heap.size + 1]? = _ from b0); obtain ⟨fzr0, fzr1, fzr2, fzr3, fzr4, fzr5, fzr6, fzr7, fzr8, fzr9, b2, b3, b4, b5, b6⟩ := free15 (show w4.heap[w.heap.size + 1]? = _ from b0); obtain ⟨ze0, ze1, ze2, ze3, ze4, ze5, ze6, ze7, ze8, ze9, ze10, ze11, ze12, ze13, ze14⟩ := cells15 (show w4.heap[w.heap.size + 1 + 1]? = _ from b1); obtain ⟨fze0, fze1, fze2, fze3, fze4, fze5, fze6, fze7, fze8, fze9, b7, b8, b9, c0, c1⟩ := free15 (show w4.heap[w.heap.size + 1 + 1]? = _ from b1)
  with_reducible_and_instances refine skip_ (w1 := ?_) ?hw_ ?hN_ ?_ ?_
  (case hw_ => rfl)
  (case hN_ => rfl)
  rotate_left
  · go_simp; rfl
  refine hK.out _ _ ?_; clear hK K; refine pv_ 7 (some 30) (bmz 9 255) ?_; refine last_ (i := 8) (N := none) (bmz 9 511) rfl rfl (by kernel_rfl) (by decide) (fun K hK => ?_)
  with_reducible_and_instances refine skip_ (w1 := ?_) ?hw_ ?hN_ ?_ ?_
  (case hw_ => rfl)
  (case hN_ => rfl)
  rotate_left
  · go_simp; rfl
  refine hK.out _ _ ?_; clear hK K; refine done_ (by kernel_rfl) ?_; go_wp2_with fail
  refine bodyPost_ret (results_cell_row rfl _ _ (w.heap.size + 1) 28 (eV 1 ⟨#[]⟩ ⟨#[]⟩ n 0 r1 r2 r3 r4 r5 r6 ⟨#[]⟩ ⟨#[]⟩ (.slice none 0 0) 0) (0, 0) _ rfl (fin15 (by
    refine blk_far ?_ (p := ⟨w.heap.size + 1 + 1, 10, none⟩) (by show w.heap.size + 1 ≠ w.heap.size + 1 + 1; omega) _; refine blk_far ?_ (p := ⟨w.heap.size + 1 + 1, 9, none⟩) (by show w.heap.size + 1 ≠ w.heap.size + 1 + 1; omega) _; refine blk_far ?_ (p := ⟨w.heap.size + 1 + 1, 8, none⟩) (by show w.heap.size + 1 ≠ w.heap.size + 1 + 1; omega) _; refine blk_far ?_ (p := ⟨w.heap.size + 1 + 1, 7, none⟩) (by show w.heap.size + 1 ≠ w.heap.size + 1 + 1; omega) _; refine blk_far ?_ (p := ⟨w.heap.size + 1 + 1, 6, none⟩) (by show w.heap.size + 1 ≠ w.heap.size + 1 + 1; omega) _; refine blk_far ?_ (p := ⟨w.heap.size + 1 + 1, 5, none⟩) (by show w.heap.size + 1 ≠ w.heap.size + 1 + 1; omega) _; refine blk_far ?_ (p := ⟨w.heap.size + 1 + 1, 3, none⟩) (by show w.heap.size + 1 ≠ w.heap.size + 1 + 1; omega) _
    exact b0)) Tryd.underlying28 rfl (by kernel_rfl)) rfl ?_
  refine ⟨rfl, ?_⟩; refine below15 ?_ (by simp); refine Below.setCell (p := ⟨w.heap.size + 1 + 1, 10, none⟩) ?_ (by show w.heap.size ≤ w.heap.size + 1 + 1; omega) _; refine Below.setCell (p := ⟨w.heap.size + 1 + 1, 9, none⟩) ?_ (by show w.heap.size ≤ w.heap.size + 1 + 1; omega) _; refine Below.setCell (p := ⟨w.heap.size + 1 + 1, 8, none⟩) ?_ (by show w.heap.size ≤ w.heap.size + 1 + 1; omega) _; refine Below.setCell (p := ⟨w.heap.size + 1 + 1, 7, none⟩) ?_ (by show w.heap.size ≤ w.heap.size + 1 + 1; omega) _; refine Below.setCell (p := ⟨w.heap.size + 1 + 1, 6, none⟩) ?_ (by show w.heap.size ≤ w.heap.size + 1 + 1; omega) _; refine Below.setCell (p := ⟨w.heap.size + 1 + 1, 5, none⟩) ?_ (by show w.heap.size ≤ w.heap.size + 1 + 1; omega) _; refine Below.setCell (p := ⟨w.heap.size + 1 + 1, 3, none⟩) ?_ (by show w.heap.size ≤ w.heap.size + 1 + 1; omega) _; exact HB

set_option maxHeartbeats 8000000 in
set_option maxRecDepth 100000 in
theorem mk_turn12 (a0 a1 a2 a3 : Int) (a7 : ByteArray) (a8 a9 b0 b1 b2 : Int) (A5 : Option Addr) (c5 n5 : Nat) (w : World) (k : Nat) (r : ByteArray) (hk : wi a0 13 = 11) (hrev : damperref1_Rev.f k (wb3 (wi a3 3)) (1 + wi a1 4) = some r) :
    Calls Tryd.prog 14 #[.int .i64 a0, .int .i64 a1, .int .i64 a2, .int .i64 a3, .agg #[.string a7, .int .i64 a8, .int .i64 a9, .int .i64 b0, .int .i64 b1, .int .i64 b2], .slice A5 n5 c5] w fun e w' => e = .returned (.agg (eV 12 r ⟨#[]⟩ 0 0 ⟨#[]⟩ 0 0 0 0 0 ⟨#[]⟩ ⟨#[]⟩ (.slice none 0 0) 0)) ∧ Below w.heap.size w w' := by
  obtain ⟨n, hn⟩ : ∃ n, wi a1 4 = n := ⟨_, rfl⟩; have bn := wi_bd hn (by decide) (by decide); rw [hn] at hrev; obtain ⟨x, hx⟩ : ∃ n, wi a3 3 = n := ⟨_, rfl⟩; have bndx := wi_bd hx (by decide) (by decide); rw [hx] at hrev; have ex0 := eq_true (show (0 : Int) ≤ x by omega); have ex1 := eq_true (show x < 3 by omega); have ex2 : decide (x < 3) = true := decide_eq_true (by omega); go_enter Tryd.func14, Tryd.ntmps14; go_wp2_with fail; refine (damperlaw3_within.keep a0 13 hk (by decide) _).mono ?_; rintro e w1 ⟨rfl, rfl⟩; go_wp2_with fail; generalize hW : World.alloc (World.alloc (World.alloc (World.alloc w _) _) _) _ = W
  have q_c : W.drew.heap[w.heap.size]? = some (.cells #[.string a7, .int .i64 a8, .int .i64 a9, .int .i64 b0, .int .i64 b1, .int .i64 b2] 23 (0, 0)) := by
    rw [← hW]; refine blk_drew ?_
    repeat (first | exact mk_here (by first | omega | (simp only [World.size_alloc] <;> omega)) | refine mk_skip (by first | omega | (simp only [World.size_alloc] <;> omega)) ?_)
  have q_r : W.drew.heap[w.heap.size + 1]? = some (.cells (eV 0 ⟨#[]⟩ ⟨#[]⟩ 0 0 ⟨#[]⟩ 0 0 0 0 0 ⟨#[]⟩ ⟨#[]⟩ (.slice none 0 0) 0) 28 (0, 0)) := by
    rw [← hW]; refine blk_drew ?_
    repeat (first | exact mk_here (by first | omega | (simp only [World.size_alloc] <;> omega)) | refine mk_skip (by first | omega | (simp only [World.size_alloc] <;> omega)) ?_)
  have q_e : W.drew.heap[w.heap.size + 1 + 1]? = some (.cells (eV 12 ⟨#[]⟩ ⟨#[]⟩ 0 0 ⟨#[]⟩ 0 0 0 0 0 ⟨#[]⟩ ⟨#[]⟩ (.slice none 0 0) 0) 28 (0, 0)) := by
    rw [← hW]; refine blk_drew ?_
    repeat (first | exact mk_here (by first | omega | (simp only [World.size_alloc] <;> omega)) | refine mk_skip (by first | omega | (simp only [World.size_alloc] <;> omega)) ?_)
  have q_n : W.drew.heap[w.heap.size + 1 + 1 + 1]? = some (.cells #[.string ⟨#[102, 114, 111, 110, 116]⟩, .string ⟨#[98, 97, 99, 107]⟩, .string ⟨#[114, 45, 49]⟩] 9 (0, 0)) := by
    rw [← hW]; refine blk_drew ?_
    repeat (first | exact mk_here (by first | omega | (simp only [World.size_alloc] <;> omega)) | refine mk_skip (by first | omega | (simp only [World.size_alloc] <;> omega)) ?_)
  have q_B : Below w.heap.size w W.drew := by
    rw [← hW]; exact below_drew1 (below_alloc (below_alloc (below_alloc (below_alloc (Below.refl _ _) _) _) _) _)
  clear hW; refine start_ (n := 11) (S := fun w' => True) (ds := []) (bmz 11 0) (by kernel_rfl) rfl rfl trivial (fun hHeld => ?_); refine pv_ 1 (some 114) (bmz 11 2) ?_; refine callp_ (i := 2) (N := some 115) (a' := ?a9_) (bmz 11 6) rfl rfl (by kernel_rfl) (fun _ _ _ h => h) (by rfl) Tryd.func17 (by kernel_rfl) rfl rfl (by (try simp only [List.map_toArray, List.map_cons, List.map_nil]); rfl) (damperlaw3_within.same _ _ (r := ?jj9_) ?hj9_ au2) ?ha9_ ?h9_
  (case hj9_ => (try simp only [i64_w, i32_w]); first | assumption | (go_simp; rfl))
  (case ha9_ => simp only [Act.put, List.setIfInBounds_toArray, List.set_cons_zero, List.set_cons_succ, i64_w, i32_w]; rfl)
  refine pv_ 5 (some 118) (bmz 11 38) ?_; refine callp_ (i := 6) (N := some 119) (a' := ?a10_) (bmz 11 102) rfl rfl (by kernel_rfl) (fun _ _ _ h => h) (by rfl) Tryd.func17 (by kernel_rfl) rfl rfl (by (try simp only [List.map_toArray, List.map_cons, List.map_nil]); rfl) (damperlaw3_within.same _ _ (r := ?jj10_) ?hj10_ au2) ?ha10_ ?h10_
  (case hj10_ => (try simp only [i64_w, i32_w]); first | assumption | (go_simp; rfl))
  (case ha10_ => simp only [Act.put, List.setIfInBounds_toArray, List.set_cons_zero, List.set_cons_succ, i64_w, i32_w]; rfl)
  refine pv_ 7 (some 120) (bmz 11 230) ?_; refine one_ (i := 0) (N := some 113) (bmz 11 231) rfl rfl (by kernel_rfl) (by decide) (fun K hK => ?_)
  with_reducible_and_instances refine value_ (w1 := ?_) (v := ?_) ?hw_ ?hN_ ?_ ?_
  (case hw_ => rfl)
  (case hN_ => rfl)
  rotate_left 2
  · go_simp; constructor
    · rfl
    · rfl
  refine hK.out _ _ trivial (fun hHeld => ?_); clear hK K; refine no_ (some 113) ?_; refine gen_ (fun w5 a4 => ?_); (have b4 : w5.heap[w.heap.size + 1]? = some (.cells (eV 0 ⟨#[]⟩ ⟨#[]⟩ 0 0 ⟨#[]⟩ 0 0 0 0 0 ⟨#[]⟩ ⟨#[]⟩ (.slice none 0 0) 0) 28 (0, 0)) := by rw [a4]; exact blk_alloc q_r _); (have b5 : w5.heap[w.heap.size + 1 + 1]? = some (.cells (eV 12 ⟨#[]⟩ ⟨#[]⟩ 0 0 ⟨#[]⟩ 0 0 0 0 0 ⟨#[]⟩ ⟨#[]⟩ (.slice none 0 0) 0) 28 (0, 0)) := by rw [a4]; exact blk_alloc q_e _); (have b6 : Below w.heap.size w w5 := by rw [a4]; exact below_alloc q_B _); (have HT : w5.heap[W.heap.size]? = some (.cells #[.string ⟨#[119, 101, 98]⟩, .string ⟨#[97, 112, 105]⟩, .string ⟨#[97, 45, 98]⟩] 9 (0, 0)) := by rw [a4]; exact mk_here (by simp)); (have b7 : W.heap.size ≠ w.heap.size + 1 + 1 := by have := blk_lt q_n; have h2 : w.heap.size + 1 + 1 + 1 < W.heap.size := this; omega); clear hHeld a4; refine restart2_ (S' := fun w' => w'.cell? ⟨W.heap.size, x.toNat, none⟩ = some (.string (wb3 x))) (fun _ h => trivial) (cell_wb3 HT (by omega) (by omega)) (fun hHeld => ?_); refine pv_ 3 (some 116) (bmz 11 239) ?_; refine tv_ 4 (some 117) (bmz 11 255) hHeld ?_; refine one_ (i := 8) (N := some 121) (bmz 11 511) rfl rfl (by kernel_rfl) (by decide) (fun K hK => ?_); refine goes_ Tryd.func29 (by kernel_rfl) rfl #[.string (wb3 x), .int .i64 (wrap64 (1 + n))] (by rfl) rfl rfl (by simp only [List.map_toArray, List.map_cons, List.map_nil]; rfl) ?_; (with_reducible refine (damperref1_Rev.calls k (wb3 x) (wrap64 (1 + n)) r _ (by rw [show wrap64 (1 + n) = 1 + n by unfold wrap64; omega]; exact hrev)).mono ?_); rintro e w4 ⟨rfl, a5⟩; refine ⟨_, rfl, ?_⟩; refine hK.out _ _ ((a5.cell (World.block_lt_of_cell? _ _ hHeld)).trans hHeld) (fun hHeld => ?_); clear hK K; refine no_ (some 121) ?_; refine pv_ 9 (some 122) (bmz 11 1023) ?_; refine one_ (i := 10) (N := none) (bmz 11 2047) rfl rfl (by kernel_rfl) (by decide) (fun K hK => ?_); have a6 := blk_below b4 a5; have b3 := blk_below b5 a5; have HB := below_step b6 a5; obtain ⟨zr0, zr1, zr2, zr3, zr4, zr5, zr6, zr7, zr8, zr9, zr10, zr11, zr12, zr13, zr14⟩ := cells15 (show w4.heap[w.heap.size + 1]? = _ from a6); obtain ⟨fzr0, fzr1, fzr2, fzr3, fzr4, fzr5, fzr6, fzr7, fzr8, fzr9, b8, b9, c0, c1, c2⟩ := free15 (show w4.heap[w.heap.size + 1]? = _ from a6); obtain ⟨ze0, ze1, ze2, ze3, ze4, ze5, ze6, ze7, ze8, ze9, ze10, ze11, ze12, ze13, ze14⟩ := cells15 (show w4.heap[w.heap.size + 1 + 1]? = _ from b3); obtain ⟨fze0, fze1, fze2, fze3, fze4, fze5, fze6, fze7, fze8, fze9, c3, c4, c6, c7, c8⟩ := free15 (show w4.heap[w.heap.size + 1 + 1]? = _ from b3)
  with_reducible_and_instances refine skip_ (w1 := ?_) ?hw_ ?hN_ ?_ ?_
  (case hw_ => rfl)
  (case hN_ => rfl)
  rotate_left
  · go_simp; rfl
  refine hK.out _ _ (mk_far b7 hHeld) (fun hHeld => ?_); clear hK K; refine done_ (by kernel_rfl) ?_; go_wp2_with fail
  refine bodyPost_ret (results_cell_row rfl _ _ (w.heap.size + 1) 28 (eV 12 r ⟨#[]⟩ 0 0 ⟨#[]⟩ 0 0 0 0 0 ⟨#[]⟩ ⟨#[]⟩ (.slice none 0 0) 0) (0, 0) _ rfl (fin15 (by
    refine blk_far ?_ (p := ⟨w.heap.size + 1 + 1, 1, none⟩) (by show w.heap.size + 1 ≠ w.heap.size + 1 + 1; omega) _
    exact a6)) Tryd.underlying28 rfl (by kernel_rfl)) rfl ?_
  refine ⟨rfl, ?_⟩; refine below15 ?_ (by simp); refine Below.setCell (p := ⟨w.heap.size + 1 + 1, 1, none⟩) ?_ (by show w.heap.size ≤ w.heap.size + 1 + 1; omega) _; exact HB

set_option maxHeartbeats 8000000 in
set_option maxRecDepth 100000 in
theorem mk_turn13 (a0 a1 a2 a3 : Int) (a7 : ByteArray) (a8 a9 b0 b1 b2 : Int) (A5 : Option Addr) (c5 n5 : Nat) (w : World) (k : Nat) (r : ByteArray) (hk : wi a0 13 = 12) (hrev : damperref1_Rev.f k (wb3 (wi a3 3)) (1 + wi a1 4) = some r) :
    Calls Tryd.prog 14 #[.int .i64 a0, .int .i64 a1, .int .i64 a2, .int .i64 a3, .agg #[.string a7, .int .i64 a8, .int .i64 a9, .int .i64 b0, .int .i64 b1, .int .i64 b2], .slice A5 n5 c5] w fun e w' => e = .returned (.agg (eV 13 r ⟨#[]⟩ 0 0 ⟨#[]⟩ 0 0 0 0 0 ⟨#[]⟩ ⟨#[]⟩ (.slice none 0 0) 0)) ∧ Below w.heap.size w w' := by
  obtain ⟨n, hn⟩ : ∃ n, wi a1 4 = n := ⟨_, rfl⟩; have bn := wi_bd hn (by decide) (by decide); rw [hn] at hrev; obtain ⟨x, hx⟩ : ∃ n, wi a3 3 = n := ⟨_, rfl⟩; have bndx := wi_bd hx (by decide) (by decide); rw [hx] at hrev; have ex0 := eq_true (show (0 : Int) ≤ x by omega); have ex1 := eq_true (show x < 3 by omega); have ex2 : decide (x < 3) = true := decide_eq_true (by omega); go_enter Tryd.func14, Tryd.ntmps14; go_wp2_with fail; refine (damperlaw3_within.keep a0 13 hk (by decide) _).mono ?_; rintro e w1 ⟨rfl, rfl⟩; go_wp2_with fail; generalize hW : World.alloc (World.alloc (World.alloc (World.alloc w _) _) _) _ = W
  have q_c : W.drew.heap[w.heap.size]? = some (.cells #[.string a7, .int .i64 a8, .int .i64 a9, .int .i64 b0, .int .i64 b1, .int .i64 b2] 23 (0, 0)) := by
    rw [← hW]; refine blk_drew ?_
    repeat (first | exact mk_here (by first | omega | (simp only [World.size_alloc] <;> omega)) | refine mk_skip (by first | omega | (simp only [World.size_alloc] <;> omega)) ?_)
  have q_r : W.drew.heap[w.heap.size + 1]? = some (.cells (eV 0 ⟨#[]⟩ ⟨#[]⟩ 0 0 ⟨#[]⟩ 0 0 0 0 0 ⟨#[]⟩ ⟨#[]⟩ (.slice none 0 0) 0) 28 (0, 0)) := by
    rw [← hW]; refine blk_drew ?_
    repeat (first | exact mk_here (by first | omega | (simp only [World.size_alloc] <;> omega)) | refine mk_skip (by first | omega | (simp only [World.size_alloc] <;> omega)) ?_)
  have q_e : W.drew.heap[w.heap.size + 1 + 1]? = some (.cells (eV 13 ⟨#[]⟩ ⟨#[]⟩ 0 0 ⟨#[]⟩ 0 0 0 0 0 ⟨#[]⟩ ⟨#[]⟩ (.slice none 0 0) 0) 28 (0, 0)) := by
    rw [← hW]; refine blk_drew ?_
    repeat (first | exact mk_here (by first | omega | (simp only [World.size_alloc] <;> omega)) | refine mk_skip (by first | omega | (simp only [World.size_alloc] <;> omega)) ?_)
  have q_n : W.drew.heap[w.heap.size + 1 + 1 + 1]? = some (.cells #[.string ⟨#[102, 114, 111, 110, 116]⟩, .string ⟨#[98, 97, 99, 107]⟩, .string ⟨#[114, 45, 49]⟩] 9 (0, 0)) := by
    rw [← hW]; refine blk_drew ?_
    repeat (first | exact mk_here (by first | omega | (simp only [World.size_alloc] <;> omega)) | refine mk_skip (by first | omega | (simp only [World.size_alloc] <;> omega)) ?_)
  have q_B : Below w.heap.size w W.drew := by
    rw [← hW]; exact below_drew1 (below_alloc (below_alloc (below_alloc (below_alloc (Below.refl _ _) _) _) _) _)
  clear hW; refine start_ (n := 11) (S := fun w' => True) (ds := []) (bmz 11 0) (by kernel_rfl) rfl rfl trivial (fun hHeld => ?_); refine pv_ 1 (some 114) (bmz 11 2) ?_; refine callp_ (i := 2) (N := some 115) (a' := ?a11_) (bmz 11 6) rfl rfl (by kernel_rfl) (fun _ _ _ h => h) (by rfl) Tryd.func17 (by kernel_rfl) rfl rfl (by (try simp only [List.map_toArray, List.map_cons, List.map_nil]); rfl) (damperlaw3_within.same _ _ (r := ?jj11_) ?hj11_ au2) ?ha11_ ?h11_
  (case hj11_ => (try simp only [i64_w, i32_w]); first | assumption | (go_simp; rfl))
  (case ha11_ => simp only [Act.put, List.setIfInBounds_toArray, List.set_cons_zero, List.set_cons_succ, i64_w, i32_w]; rfl)
  refine pv_ 5 (some 118) (bmz 11 38) ?_; refine callp_ (i := 6) (N := some 119) (a' := ?a12_) (bmz 11 102) rfl rfl (by kernel_rfl) (fun _ _ _ h => h) (by rfl) Tryd.func17 (by kernel_rfl) rfl rfl (by (try simp only [List.map_toArray, List.map_cons, List.map_nil]); rfl) (damperlaw3_within.same _ _ (r := ?jj12_) ?hj12_ au2) ?ha12_ ?h12_
  (case hj12_ => (try simp only [i64_w, i32_w]); first | assumption | (go_simp; rfl))
  (case ha12_ => simp only [Act.put, List.setIfInBounds_toArray, List.set_cons_zero, List.set_cons_succ, i64_w, i32_w]; rfl)
  refine pv_ 7 (some 120) (bmz 11 230) ?_; refine one_ (i := 0) (N := some 113) (bmz 11 231) rfl rfl (by kernel_rfl) (by decide) (fun K hK => ?_)
  with_reducible_and_instances refine value_ (w1 := ?_) (v := ?_) ?hw_ ?hN_ ?_ ?_
  (case hw_ => rfl)
  (case hN_ => rfl)
  rotate_left 2
  · go_simp; constructor
    · rfl
    · rfl
  refine hK.out _ _ trivial (fun hHeld => ?_); clear hK K; refine no_ (some 113) ?_; refine gen_ (fun w5 a4 => ?_); (have b4 : w5.heap[w.heap.size + 1]? = some (.cells (eV 0 ⟨#[]⟩ ⟨#[]⟩ 0 0 ⟨#[]⟩ 0 0 0 0 0 ⟨#[]⟩ ⟨#[]⟩ (.slice none 0 0) 0) 28 (0, 0)) := by rw [a4]; exact blk_alloc q_r _); (have b5 : w5.heap[w.heap.size + 1 + 1]? = some (.cells (eV 13 ⟨#[]⟩ ⟨#[]⟩ 0 0 ⟨#[]⟩ 0 0 0 0 0 ⟨#[]⟩ ⟨#[]⟩ (.slice none 0 0) 0) 28 (0, 0)) := by rw [a4]; exact blk_alloc q_e _); (have b6 : Below w.heap.size w w5 := by rw [a4]; exact below_alloc q_B _); (have HT : w5.heap[W.heap.size]? = some (.cells #[.string ⟨#[119, 101, 98]⟩, .string ⟨#[97, 112, 105]⟩, .string ⟨#[97, 45, 98]⟩] 9 (0, 0)) := by rw [a4]; exact mk_here (by simp)); (have b7 : W.heap.size ≠ w.heap.size + 1 + 1 := by have := blk_lt q_n; have h2 : w.heap.size + 1 + 1 + 1 < W.heap.size := this; omega); clear hHeld a4; refine restart2_ (S' := fun w' => w'.cell? ⟨W.heap.size, x.toNat, none⟩ = some (.string (wb3 x))) (fun _ h => trivial) (cell_wb3 HT (by omega) (by omega)) (fun hHeld => ?_); refine pv_ 3 (some 116) (bmz 11 239) ?_; refine tv_ 4 (some 117) (bmz 11 255) hHeld ?_; refine one_ (i := 8) (N := some 121) (bmz 11 511) rfl rfl (by kernel_rfl) (by decide) (fun K hK => ?_); refine goes_ Tryd.func29 (by kernel_rfl) rfl #[.string (wb3 x), .int .i64 (wrap64 (1 + n))] (by rfl) rfl rfl (by simp only [List.map_toArray, List.map_cons, List.map_nil]; rfl) ?_; (with_reducible refine (damperref1_Rev.calls k (wb3 x) (wrap64 (1 + n)) r _ (by rw [show wrap64 (1 + n) = 1 + n by unfold wrap64; omega]; exact hrev)).mono ?_); rintro e w4 ⟨rfl, a5⟩; refine ⟨_, rfl, ?_⟩; refine hK.out _ _ ((a5.cell (World.block_lt_of_cell? _ _ hHeld)).trans hHeld) (fun hHeld => ?_); clear hK K; refine no_ (some 121) ?_; refine pv_ 9 (some 122) (bmz 11 1023) ?_; refine one_ (i := 10) (N := none) (bmz 11 2047) rfl rfl (by kernel_rfl) (by decide) (fun K hK => ?_); have a6 := blk_below b4 a5; have b3 := blk_below b5 a5; have HB := below_step b6 a5; obtain ⟨zr0, zr1, zr2, zr3, zr4, zr5, zr6, zr7, zr8, zr9, zr10, zr11, zr12, zr13, zr14⟩ := cells15 (show w4.heap[w.heap.size + 1]? = _ from a6); obtain ⟨fzr0, fzr1, fzr2, fzr3, fzr4, fzr5, fzr6, fzr7, fzr8, fzr9, b8, b9, c0, c1, c2⟩ := free15 (show w4.heap[w.heap.size + 1]? = _ from a6); obtain ⟨ze0, ze1, ze2, ze3, ze4, ze5, ze6, ze7, ze8, ze9, ze10, ze11, ze12, ze13, ze14⟩ := cells15 (show w4.heap[w.heap.size + 1 + 1]? = _ from b3); obtain ⟨fze0, fze1, fze2, fze3, fze4, fze5, fze6, fze7, fze8, fze9, c3, c4, c6, c7, c8⟩ := free15 (show w4.heap[w.heap.size + 1 + 1]? = _ from b3)
  with_reducible_and_instances refine skip_ (w1 := ?_) ?hw_ ?hN_ ?_ ?_
  (case hw_ => rfl)
  (case hN_ => rfl)
  rotate_left
  · go_simp; rfl
  refine hK.out _ _ (mk_far b7 hHeld) (fun hHeld => ?_); clear hK K; refine done_ (by kernel_rfl) ?_; go_wp2_with fail
  refine bodyPost_ret (results_cell_row rfl _ _ (w.heap.size + 1) 28 (eV 13 r ⟨#[]⟩ 0 0 ⟨#[]⟩ 0 0 0 0 0 ⟨#[]⟩ ⟨#[]⟩ (.slice none 0 0) 0) (0, 0) _ rfl (fin15 (by
    refine blk_far ?_ (p := ⟨w.heap.size + 1 + 1, 1, none⟩) (by show w.heap.size + 1 ≠ w.heap.size + 1 + 1; omega) _
    exact a6)) Tryd.underlying28 rfl (by kernel_rfl)) rfl ?_
  refine ⟨rfl, ?_⟩; refine below15 ?_ (by simp); refine Below.setCell (p := ⟨w.heap.size + 1 + 1, 1, none⟩) ?_ (by show w.heap.size ≤ w.heap.size + 1 + 1; omega) _; exact HB

set_option maxHeartbeats 8000000 in
set_option maxRecDepth 100000 in
theorem mk_route (a0 a1 a2 a3 : Int) (a5 : ByteArray) (a6 a7 a8 a9 b0 : Int) (A5 : Option Addr) (c5 n5 : Nat) (w : World) (k : Nat) (l5 : List Int) (r1 r2 : ByteArray) (r3 : List (S39)) (r4 : Int) (b3 : Kd.C (Kd.int .i64) w A5 l5.length l5) (b4 : l5.length ≤ c5) (hk : wi a0 13 = 1) (hrt : damperlaw2_Route.f k a3 l5 a2 = some (r1, r2, r3, r4)) :
    Calls Tryd.prog 14 #[.int .i64 a0, .int .i64 a1, .int .i64 a2, .int .i64 a3, .agg #[.string a5, .int .i64 a6, .int .i64 a7, .int .i64 a8, .int .i64 a9, .int .i64 b0], .slice A5 l5.length c5] w fun e w' => ∃ b1 : Value, e = .returned (.agg (eV 2 ⟨#[]⟩ ⟨#[]⟩ (wi a1 30) 0 ⟨#[]⟩ 0 0 0 0 0 r1 r2 b1 r4)) ∧ Kd.R k39 39 w' w.heap.size (fun _ => True) b1 r3 ∧ Below w.heap.size w w' := by
  obtain ⟨n, hn⟩ : ∃ n, wi a1 30 = n := ⟨_, rfl⟩; have bn := wi_bd hn (by decide) (by decide); rw [hn]; go_enter Tryd.func14, Tryd.ntmps14; go_wp2_with fail; refine (damperlaw3_within.keep a0 13 hk (by decide) _).mono ?_; rintro e w1 ⟨rfl, rfl⟩; go_wp2_with fail; refine (damperlaw3_within.keep a1 30 hn (by decide) _).mono ?_; rintro e w1 ⟨rfl, rfl⟩; go_wp2_with fail; generalize hW : World.alloc (World.alloc (World.alloc (World.alloc w _) _) _) _ = W
  have q_c : W.heap[w.heap.size]? = some (.cells #[.string a5, .int .i64 a6, .int .i64 a7, .int .i64 a8, .int .i64 a9, .int .i64 b0] 23 (0, 0)) := by
    rw [← hW]
    repeat (first | exact mk_here (by first | omega | (simp only [World.size_alloc] <;> omega)) | refine mk_skip (by first | omega | (simp only [World.size_alloc] <;> omega)) ?_)
  have q_r : W.heap[w.heap.size + 1]? = some (.cells (eV 0 ⟨#[]⟩ ⟨#[]⟩ 0 0 ⟨#[]⟩ 0 0 0 0 0 ⟨#[]⟩ ⟨#[]⟩ (.slice none 0 0) 0) 28 (0, 0)) := by
    rw [← hW]
    repeat (first | exact mk_here (by first | omega | (simp only [World.size_alloc] <;> omega)) | refine mk_skip (by first | omega | (simp only [World.size_alloc] <;> omega)) ?_)
  have q_e : W.heap[w.heap.size + 1 + 1]? = some (.cells (eV 2 ⟨#[]⟩ ⟨#[]⟩ 0 0 ⟨#[]⟩ 0 0 0 0 0 ⟨#[]⟩ ⟨#[]⟩ (.slice none 0 0) 0) 28 (0, 0)) := by
    rw [← hW]
    repeat (first | exact mk_here (by first | omega | (simp only [World.size_alloc] <;> omega)) | refine mk_skip (by first | omega | (simp only [World.size_alloc] <;> omega)) ?_)
  have q_n : W.heap[w.heap.size + 1 + 1 + 1]? = some (.cells #[.string ⟨#[102, 114, 111, 110, 116]⟩, .string ⟨#[98, 97, 99, 107]⟩, .string ⟨#[114, 45, 49]⟩] 9 (0, 0)) := by
    rw [← hW]
    repeat (first | exact mk_here (by first | omega | (simp only [World.size_alloc] <;> omega)) | refine mk_skip (by first | omega | (simp only [World.size_alloc] <;> omega)) ?_)
  have q_B : Below w.heap.size w W := by
    rw [← hW]; exact (below_alloc (below_alloc (below_alloc (below_alloc (Below.refl _ _) _) _) _) _)
  clear hW; refine (damperlaw2_Route.calls k a3 A5 c5 l5 a2 r1 r2 r3 r4 _ (Kd.C_below b3 q_B) b4 hrt).mono ?_; rintro e w4 ⟨v2, rfl, hR, hb⟩; obtain ⟨A3, c3, rfl⟩ := Kd.R_slice hR; have hsz : w.heap.size + 1 + 1 + 1 < W.heap.size := blk_lt q_n; have HR := Aside0.mk (Kd.R_lower (base' := w.heap.size) (Kd.R_bound hR) q_B.size); clear hR; have a4 := blk_below q_r hb; have b2 := blk_below q_e hb; have HB := below_step q_B hb; obtain ⟨zr0, zr1, zr2, zr3, zr4, zr5, zr6, zr7, zr8, zr9, zr10, zr11, zr12, zr13, zr14⟩ := cells15 (show w4.heap[w.heap.size + 1]? = _ from a4); obtain ⟨fzr0, fzr1, fzr2, fzr3, fzr4, fzr5, fzr6, fzr7, fzr8, fzr9, b5, b6, b7, b8, b9⟩ := free15 (show w4.heap[w.heap.size + 1]? = _ from a4); obtain ⟨ze0, ze1, ze2, ze3, ze4, ze5, ze6, ze7, ze8, ze9, ze10, ze11, ze12, ze13, ze14⟩ := cells15 (show w4.heap[w.heap.size + 1 + 1]? = _ from b2); obtain ⟨fze0, fze1, fze2, fze3, fze4, fze5, fze6, fze7, fze8, fze9, c0, c1, c2, c4, c6⟩ := free15 (show w4.heap[w.heap.size + 1 + 1]? = _ from b2); go_wp2_with fail
  refine bodyPost_ret (results_cell_row rfl _ _ (w.heap.size + 1) 28 (eV 2 ⟨#[]⟩ ⟨#[]⟩ n 0 ⟨#[]⟩ 0 0 0 0 0 r1 r2 (.slice A3 r3.length c3) r4) (0, 0) _ rfl (fin15 (by
    refine blk_far ?_ (p := ⟨w.heap.size + 1 + 1, 14, none⟩) (by show w.heap.size + 1 ≠ w.heap.size + 1 + 1; omega) _; refine blk_far ?_ (p := ⟨w.heap.size + 1 + 1, 13, none⟩) (by show w.heap.size + 1 ≠ w.heap.size + 1 + 1; omega) _; refine blk_far ?_ (p := ⟨w.heap.size + 1 + 1, 12, none⟩) (by show w.heap.size + 1 ≠ w.heap.size + 1 + 1; omega) _; refine blk_far ?_ (p := ⟨w.heap.size + 1 + 1, 11, none⟩) (by show w.heap.size + 1 ≠ w.heap.size + 1 + 1; omega) _; refine blk_far ?_ (p := ⟨w.heap.size + 1 + 1, 3, none⟩) (by show w.heap.size + 1 ≠ w.heap.size + 1 + 1; omega) _
    exact a4)) Tryd.underlying28 rfl (by kernel_rfl)) rfl ?_
  refine ⟨_, rfl, Kd.R_mono (Kd.R_step HR.out (fun k hk _ => ?_)) (fun _ _ => trivial), ?_⟩
  · have hk1 : W.heap.size ≤ k := hk.2.1; refine (Below.heap_setCell _ ⟨w.heap.size + 1, 14, none⟩ _ k (by show k ≠ w.heap.size + 1; omega)).trans ?_; refine (Below.heap_setCell _ ⟨w.heap.size + 1, 13, none⟩ _ k (by show k ≠ w.heap.size + 1; omega)).trans ?_; refine (Below.heap_setCell _ ⟨w.heap.size + 1, 12, none⟩ _ k (by show k ≠ w.heap.size + 1; omega)).trans ?_; refine (Below.heap_setCell _ ⟨w.heap.size + 1, 11, none⟩ _ k (by show k ≠ w.heap.size + 1; omega)).trans ?_; refine (Below.heap_setCell _ ⟨w.heap.size + 1, 10, none⟩ _ k (by show k ≠ w.heap.size + 1; omega)).trans ?_; refine (Below.heap_setCell _ ⟨w.heap.size + 1, 9, none⟩ _ k (by show k ≠ w.heap.size + 1; omega)).trans ?_; refine (Below.heap_setCell _ ⟨w.heap.size + 1, 8, none⟩ _ k (by show k ≠ w.heap.size + 1; omega)).trans ?_; refine (Below.heap_setCell _ ⟨w.heap.size + 1, 7, none⟩ _ k (by show k ≠ w.heap.size + 1; omega)).trans ?_; refine (Below.heap_setCell _ ⟨w.heap.size + 1, 6, none⟩ _ k (by show k ≠ w.heap.size + 1; omega)).trans ?_; refine (Below.heap_setCell _ ⟨w.heap.size + 1, 5, none⟩ _ k (by show k ≠ w.heap.size + 1; omega)).trans ?_; refine (Below.heap_setCell _ ⟨w.heap.size + 1, 4, none⟩ _ k (by show k ≠ w.heap.size + 1; omega)).trans ?_; refine (Below.heap_setCell _ ⟨w.heap.size + 1, 3, none⟩ _ k (by show k ≠ w.heap.size + 1; omega)).trans ?_; refine (Below.heap_setCell _ ⟨w.heap.size + 1, 2, none⟩ _ k (by show k ≠ w.heap.size + 1; omega)).trans ?_; refine (Below.heap_setCell _ ⟨w.heap.size + 1, 1, none⟩ _ k (by show k ≠ w.heap.size + 1; omega)).trans ?_; refine (Below.heap_setCell _ ⟨w.heap.size + 1, 0, none⟩ _ k (by show k ≠ w.heap.size + 1; omega)).trans ?_; refine (Below.heap_setCell _ ⟨w.heap.size + 1 + 1, 14, none⟩ _ k (by show k ≠ w.heap.size + 1 + 1; omega)).trans ?_; refine (Below.heap_setCell _ ⟨w.heap.size + 1 + 1, 13, none⟩ _ k (by show k ≠ w.heap.size + 1 + 1; omega)).trans ?_; refine (Below.heap_setCell _ ⟨w.heap.size + 1 + 1, 12, none⟩ _ k (by show k ≠ w.heap.size + 1 + 1; omega)).trans ?_; refine (Below.heap_setCell _ ⟨w.heap.size + 1 + 1, 11, none⟩ _ k (by show k ≠ w.heap.size + 1 + 1; omega)).trans ?_; refine (Below.heap_setCell _ ⟨w.heap.size + 1 + 1, 3, none⟩ _ k (by show k ≠ w.heap.size + 1 + 1; omega)).trans ?_; rfl
  refine below15 ?_ (by simp); refine Below.setCell (p := ⟨w.heap.size + 1 + 1, 14, none⟩) ?_ (by show w.heap.size ≤ w.heap.size + 1 + 1; omega) _; refine Below.setCell (p := ⟨w.heap.size + 1 + 1, 13, none⟩) ?_ (by show w.heap.size ≤ w.heap.size + 1 + 1; omega) _; refine Below.setCell (p := ⟨w.heap.size + 1 + 1, 12, none⟩) ?_ (by show w.heap.size ≤ w.heap.size + 1 + 1; omega) _; refine Below.setCell (p := ⟨w.heap.size + 1 + 1, 11, none⟩) ?_ (by show w.heap.size ≤ w.heap.size + 1 + 1; omega) _; refine Below.setCell (p := ⟨w.heap.size + 1 + 1, 3, none⟩) ?_ (by show w.heap.size ≤ w.heap.size + 1 + 1; omega) _; exact HB
end Go.Proofs.YtalpoojepffldaaDoor.Ma
