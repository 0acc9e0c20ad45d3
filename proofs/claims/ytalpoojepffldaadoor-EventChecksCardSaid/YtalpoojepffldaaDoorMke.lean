/- Arms of Make: what each kind of event is made of (arrive). -/
import Derived.Test.YtalpoojepffldaaDoorPb
import Derived.Test.YtalpoojepffldaaDoorMka
import Derived.Lib.Hide
namespace Go.Proofs.YtalpoojepffldaaDoor.Ma
open Go.RowKit Go.Proofs.YtalpoojepffldaaDoorW.PrintWords Go.Proofs.YtalpoojepffldaaDoorW.PrintLast Go.Proofs.YtalpoojepffldaaDoorW.PrintMore
set_option linter.unusedVariables false
set_option linter.unusedSimpArgs false
set_option maxHeartbeats 8000000 in
set_option maxRecDepth 100000 in
theorem mk_arrive (a0 a1 a2 a3 : Int) (a8 : ByteArray) (a9 b0 b1 b2 b3 : Int) (A5 : Option Addr) (c5 n5 : Nat) (w : World) (hk : wi a0 13 = 3) :
    Calls Tryd.prog 14 #[.int .i64 a0, .int .i64 a1, .int .i64 a2, .int .i64 a3, .agg #[.string a8, .int .i64 a9, .int .i64 b0, .int .i64 b1, .int .i64 b2, .int .i64 b3], .slice A5 n5 c5] w fun e w' => e = .returned (.agg (eV 4 (nm3 (wi a3 3)) (tg4 (wi (wrap64 (Int.tdiv a3 3)) 4)) (1 + wi a1 60) (wi a2 2147483648) ⟨#[]⟩ 0 0 0 0 0 ⟨#[]⟩ ⟨#[]⟩ (.slice none 0 0) 0)) ∧ Below w.heap.size w w' := by
  obtain ⟨n, hn⟩ : ∃ n, wi a1 60 = n := ⟨_, rfl⟩; have bn := wi_bd hn (by decide) (by decide); rw [hn]; obtain ⟨m, hm⟩ : ∃ n, wi a2 2147483648 = n := ⟨_, rfl⟩; have bm := wi_bd hm (by decide) (by decide); rw [hm]; obtain ⟨x, hx⟩ : ∃ n, wi a3 3 = n := ⟨_, rfl⟩; have bndx := wi_bd hx (by decide) (by decide); rw [hx]; have ex0 := eq_true (show (0 : Int) ≤ x by omega); have ex1 := eq_true (show x < 3 by omega); have ex2 : decide (x < 3) = true := decide_eq_true (by omega); obtain ⟨y, hy⟩ : ∃ n, wi (wrap64 (Int.tdiv a3 3)) 4 = n := ⟨_, rfl⟩; have bndy := wi_bd hy (by decide) (by decide); rw [hy]; have ey0 := eq_true (show (0 : Int) ≤ y by omega); have ey1 := eq_true (show y < 4 by omega); have ey2 : decide (y < 4) = true := decide_eq_true (by omega); (have hw : wrap64 (1 + n) = 1 + n := by unfold wrap64; omega); rw [← hw]; clear hw; go_enter Tryd.func14, Tryd.ntmps14; go_wp2_with fail; refine (damperlaw3_within.keep a0 13 hk (by decide) _).mono ?_; rintro e w1 ⟨rfl, rfl⟩; go_wp2_with fail; generalize hW : World.alloc (World.alloc (World.alloc (World.alloc w _) _) _) _ = W
  have q_c : W.drew.heap[w.heap.size]? = some (.cells #[.string a8, .int .i64 a9, .int .i64 b0, .int .i64 b1, .int .i64 b2, .int .i64 b3] 23 (0, 0)) := by
    rw [← hW]; refine blk_drew ?_
    repeat (first | exact mk_here (by first | omega | (simp only [World.size_alloc] <;> omega)) | refine mk_skip (by first | omega | (simp only [World.size_alloc] <;> omega)) ?_)
  have q_r : W.drew.heap[w.heap.size + 1]? = some (.cells (eV 0 ⟨#[]⟩ ⟨#[]⟩ 0 0 ⟨#[]⟩ 0 0 0 0 0 ⟨#[]⟩ ⟨#[]⟩ (.slice none 0 0) 0) 28 (0, 0)) := by
    rw [← hW]; refine blk_drew ?_
    repeat (first | exact mk_here (by first | omega | (simp only [World.size_alloc] <;> omega)) | refine mk_skip (by first | omega | (simp only [World.size_alloc] <;> omega)) ?_)
  have q_e : W.drew.heap[w.heap.size + 1 + 1]? = some (.cells (eV 4 ⟨#[]⟩ ⟨#[]⟩ 0 0 ⟨#[]⟩ 0 0 0 0 0 ⟨#[]⟩ ⟨#[]⟩ (.slice none 0 0) 0) 28 (0, 0)) := by
    rw [← hW]; refine blk_drew ?_
    repeat (first | exact mk_here (by first | omega | (simp only [World.size_alloc] <;> omega)) | refine mk_skip (by first | omega | (simp only [World.size_alloc] <;> omega)) ?_)
  have q_n : W.drew.heap[w.heap.size + 1 + 1 + 1]? = some (.cells #[.string ⟨#[102, 114, 111, 110, 116]⟩, .string ⟨#[98, 97, 99, 107]⟩, .string ⟨#[114, 45, 49]⟩] 9 (0, 0)) := by
    rw [← hW]; refine blk_drew ?_
    repeat (first | exact mk_here (by first | omega | (simp only [World.size_alloc] <;> omega)) | refine mk_skip (by first | omega | (simp only [World.size_alloc] <;> omega)) ?_)
  have q_B : Below w.heap.size w W.drew := by
    rw [← hW]; exact below_drew1 (below_alloc (below_alloc (below_alloc (below_alloc (Below.refl _ _) _) _) _) _)
  clear hW; obtain ⟨zr0, zr1, zr2, zr3, zr4, zr5, zr6, zr7, zr8, zr9, zr10, zr11, zr12, zr13, zr14⟩ := cells15 (show W.heap[w.heap.size + 1]? = _ from q_r); obtain ⟨fzr0, fzr1, fzr2, fzr3, fzr4, fzr5, fzr6, fzr7, fzr8, fzr9, i1, i2, i3, i4, i5⟩ := free15 (show W.heap[w.heap.size + 1]? = _ from q_r); obtain ⟨ze0, ze1, ze2, ze3, ze4, ze5, ze6, ze7, ze8, ze9, ze10, ze11, ze12, ze13, ze14⟩ := cells15 (show W.heap[w.heap.size + 1 + 1]? = _ from q_e); obtain ⟨fze0, fze1, fze2, fze3, fze4, fze5, fze6, fze7, fze8, fze9, i6, i7, i8, i9, j0⟩ := free15 (show W.heap[w.heap.size + 1 + 1]? = _ from q_e); refine start_ (n := 24) (S := fun w' => w'.cell? ⟨w.heap.size + 1 + 1 + 1, x.toNat, none⟩ = some (.string (nm3 x))) (ds := []) (bmz 24 0) (by kernel_rfl) rfl rfl (cell_nm3 q_n (by omega) (by omega)) (fun hHeld => ?_); refine pv_ 0 (some 60) (bmz 24 1) ?_; refine callp_ (i := 1) (N := some 61) (a' := ?a5_) (bmz 24 3) rfl rfl (by kernel_rfl) (fun _ _ _ h => h) (by rfl) Tryd.func17 (by kernel_rfl) rfl rfl (by (try simp only [List.map_toArray, List.map_cons, List.map_nil]); rfl) (damperlaw3_within.same _ _ (r := ?jj5_) ?hj5_ au2) ?ha5_ ?h5_
  (case hj5_ => (try simp only [i64_w, i32_w]); first | assumption | (go_simp; rfl))
  (case ha5_ => simp only [Act.put, List.setIfInBounds_toArray, List.set_cons_zero, List.set_cons_succ, i64_w, i32_w]; rfl)
  refine pv_ 2 (some 62) (bmz 24 7) ?_; refine pv_ 3 (some 63) (bmz 24 15) ?_; refine pv_ 4 (some 64) (bmz 24 31) ?_; refine callp_ (i := 5) (N := some 65) (a' := ?a6_) (bmz 24 63) rfl rfl (by kernel_rfl) (fun _ _ _ h => h) (by rfl) Tryd.func17 (by kernel_rfl) rfl rfl (by (try simp only [List.map_toArray, List.map_cons, List.map_nil]); rfl) (damperlaw3_within.same _ _ (r := ?jj6_) ?hj6_ au2) ?ha6_ ?h6_
  (case hj6_ => (try simp only [i64_w, i32_w]); first | assumption | (go_simp; rfl))
  (case ha6_ => simp only [Act.put, List.setIfInBounds_toArray, List.set_cons_zero, List.set_cons_succ, i64_w, i32_w]; rfl)
  refine pv_ 6 (some 66) (bmz 24 127) ?_; refine pv_ 9 (some 69) (bmz 24 639) ?_; refine pv_ 10 (some 70) (bmz 24 1663) ?_; refine callp_ (i := 11) (N := some 71) (a' := ?a7_) (bmz 24 3711) rfl rfl (by kernel_rfl) (fun _ _ _ h => h) (by rfl) Tryd.func17 (by kernel_rfl) rfl rfl (by (try simp only [List.map_toArray, List.map_cons, List.map_nil]); rfl) (damperlaw3_within.same _ _ (r := ?jj7_) ?hj7_ au2) ?ha7_ ?h7_
  (case hj7_ => (try simp only [i64_w, i32_w]); first | assumption | (go_simp; rfl))
  (case ha7_ => simp only [Act.put, List.setIfInBounds_toArray, List.set_cons_zero, List.set_cons_succ, i64_w, i32_w]; rfl)
  refine pv_ 14 (some 74) (bmz 24 20095) ?_; refine callp_ (i := 15) (N := some 75) (a' := ?a8_) (bmz 24 52863) rfl rfl (by kernel_rfl) (fun _ _ _ h => h) (by rfl) Tryd.func17 (by kernel_rfl) rfl rfl (by (try simp only [List.map_toArray, List.map_cons, List.map_nil]); rfl) (damperlaw3_within.same _ _ (r := ?jj8_) ?hj8_ au2) ?ha8_ ?h8_
  (case hj8_ => (try simp only [i64_w, i32_w]); first | assumption | (go_simp; rfl))
  (case ha8_ => simp only [Act.put, List.setIfInBounds_toArray, List.set_cons_zero, List.set_cons_succ, i64_w, i32_w]; rfl)
  refine pv_ 16 (some 76) (bmz 24 118399) ?_; refine tv_ 7 (some 67) (bmz 24 118527) hHeld ?_; refine two_ (i := 8) (j := 17) (Ni := some 68) (Nj := none) (bmz 24 118783) (bmz 24 249599) rfl rfl rfl rfl (by kernel_rfl) (by decide) (by decide) (fun K hK => ?_) (fun K hK => ?_)
  · skip
    with_reducible_and_instances refine value_ (w1 := ?_) (v := ?_) ?hw_ ?hN_ ?_ ?_
    (case hw_ => rfl)
    (case hN_ => rfl)
    rotate_left 2
    · go_simp; constructor
      · rfl
      · rfl
    refine hK.out _ _ ((World.cell?_alloc_lt _ _ _ (World.block_lt_of_cell? _ _ hHeld)).trans hHeld) (fun hHeld => ?_); clear hK K; refine no_ (some 68) ?_; refine gen_ (fun w4 a4 => ?_); (have a7 : w4.heap[w.heap.size + 1 + 1]? = some (.cells (eV 4 ⟨#[]⟩ ⟨#[]⟩ 0 0 ⟨#[]⟩ 0 0 0 0 0 ⟨#[]⟩ ⟨#[]⟩ (.slice none 0 0) 0) 28 (0, 0)) := by rw [a4]; exact blk_alloc (q_e) _); (have a5 : w4.heap[w.heap.size + 1]? = some (.cells (eV 0 ⟨#[]⟩ ⟨#[]⟩ 0 0 ⟨#[]⟩ 0 0 0 0 0 ⟨#[]⟩ ⟨#[]⟩ (.slice none 0 0) 0) 28 (0, 0)) := by rw [a4]; exact blk_alloc (q_r) _); (have HB : Below w.heap.size w w4 := by rw [a4]; exact below_alloc (q_B) _); (have HT : w4.heap[W.heap.size]? = some (.cells #[(.string ⟨#[]⟩), (.string ⟨#[]⟩), (.string ⟨#[116, 48]⟩), (.string ⟨#[116, 49]⟩)] 9 (0, 0)) := by rw [a4]; exact mk_here (by simp)); (have a6 : W.heap.size ≠ w.heap.size + 1 + 1 := by have := blk_lt q_n; have h2 : w.heap.size + 1 + 1 + 1 < W.heap.size := this; omega); (have hHeld' : w4.cell? ⟨w.heap.size + 1 + 1 + 1, x.toNat, none⟩ = some (.string (nm3 x)) := by rw [a4]; exact hHeld); clear hHeld a4; obtain ⟨b4, b5, b6, b7, b8, b9, c0, c1, c2, c3, c4, c6, c7, c8, c9⟩ := cells15 (show w4.heap[w.heap.size + 1]? = _ from a5); obtain ⟨d0, d1, d2, d3, d4, d5, d6, d7, d8, d9, e5, e6, e7, e8, e9⟩ := free15 (show w4.heap[w.heap.size + 1]? = _ from a5); obtain ⟨f0, f1, f2, f3, f4, f5, f6, f7, f8, f9, g0, g1, g2, g3, g4⟩ := cells15 (show w4.heap[w.heap.size + 1 + 1]? = _ from a7); obtain ⟨g5, g6, g7, g8, g9, h0, h1, h3, h4, h5, h6, h7, h8, h9, i0⟩ := free15 (show w4.heap[w.heap.size + 1 + 1]? = _ from a7); refine restart2_ (S' := fun w' => w'.cell? ⟨w.heap.size + 1 + 1 + 1, x.toNat, none⟩ = some (.string (nm3 x)) ∧ w'.cell? ⟨W.heap.size, y.toNat, none⟩ = some (.string (tg4 y))) (fun _ h => (h.1)) ⟨hHeld', cell_tg4 HT (by omega) (by omega)⟩ (fun hHeld => ?_); refine pv_ 12 (some 72) (bmz 24 122879) ?_; refine tv_ 13 (some 73) (bmz 24 131071) hHeld ?_; refine one_ (i := 17) (N := none) (bmz 24 262143) rfl rfl (by kernel_rfl) (by decide) (fun K hK => ?_)
    with_reducible_and_instances refine skip_ (w1 := ?_) ?hw_ ?hN_ ?_ ?_
    (case hw_ => rfl)
    (case hN_ => rfl)
    rotate_left
    · go_simp; rfl
    refine hK.out _ _ ⟨mk_far (by omega) hHeld.1, mk_far a6 hHeld.2⟩ (fun hHeld => ?_); clear hK K; refine pv_ 18 (some 77) (bmz 24 524287) ?_; refine one_ (i := 19) (N := none) (bmz 24 1048575) rfl rfl (by kernel_rfl) (by decide) (fun K hK => ?_)
    with_reducible_and_instances refine skip_ (w1 := ?_) ?hw_ ?hN_ ?_ ?_
    (case hw_ => rfl)
    (case hN_ => rfl)
    rotate_left
    · go_simp; rfl
    refine hK.out _ _ ⟨mk_far (by omega) hHeld.1, mk_far a6 hHeld.2⟩ (fun hHeld => ?_); clear hK K; refine pv_ 20 (some 78) (bmz 24 2097151) ?_; refine one_ (i := 21) (N := none) (bmz 24 4194303) rfl rfl (by kernel_rfl) (by decide) (fun K hK => ?_)
    with_reducible_and_instances refine skip_ (w1 := ?_) ?hw_ ?hN_ ?_ ?_
    (case hw_ => rfl)
    (case hN_ => rfl)
    rotate_left
    · go_simp; rfl
    refine hK.out _ _ ⟨mk_far (by omega) hHeld.1, mk_far a6 hHeld.2⟩ (fun hHeld => ?_); clear hK K; refine pv_ 22 (some 79) (bmz 24 8388607) ?_; refine one_ (i := 23) (N := none) (bmz 24 16777215) rfl rfl (by kernel_rfl) (by decide) (fun K hK => ?_)
    with_reducible_and_instances refine skip_ (w1 := ?_) ?hw_ ?hN_ ?_ ?_
    (case hw_ => rfl)
    (case hN_ => rfl)
    rotate_left
    · go_simp; rfl
    refine hK.out _ _ ⟨mk_far (by omega) hHeld.1, mk_far a6 hHeld.2⟩ (fun hHeld => ?_); clear hK K; refine done_ (by kernel_rfl) ?_; go_wp2_with fail
    refine bodyPost_ret (results_cell_row rfl _ _ (w.heap.size + 1) 28 (eV 4 (nm3 x) (tg4 y) (wrap64 (1 + n)) m ⟨#[]⟩ 0 0 0 0 0 ⟨#[]⟩ ⟨#[]⟩ (.slice none 0 0) 0) (0, 0) _ rfl (fin15 (by
      refine blk_far ?_ (p := ⟨w.heap.size + 1 + 1, 4, none⟩) (by show w.heap.size + 1 ≠ w.heap.size + 1 + 1; omega) _; refine blk_far ?_ (p := ⟨w.heap.size + 1 + 1, 2, none⟩) (by show w.heap.size + 1 ≠ w.heap.size + 1 + 1; omega) _; refine blk_far ?_ (p := ⟨w.heap.size + 1 + 1, 1, none⟩) (by show w.heap.size + 1 ≠ w.heap.size + 1 + 1; omega) _; refine blk_far ?_ (p := ⟨w.heap.size + 1 + 1, 3, none⟩) (by show w.heap.size + 1 ≠ w.heap.size + 1 + 1; omega) _
      exact a5)) Tryd.underlying28 rfl (by kernel_rfl)) rfl ?_
    refine ⟨rfl, ?_⟩; refine below15 ?_ (by simp); refine Below.setCell (p := ⟨w.heap.size + 1 + 1, 4, none⟩) ?_ (by show w.heap.size ≤ w.heap.size + 1 + 1; omega) _; refine Below.setCell (p := ⟨w.heap.size + 1 + 1, 2, none⟩) ?_ (by show w.heap.size ≤ w.heap.size + 1 + 1; omega) _; refine Below.setCell (p := ⟨w.heap.size + 1 + 1, 1, none⟩) ?_ (by show w.heap.size ≤ w.heap.size + 1 + 1; omega) _; refine Below.setCell (p := ⟨w.heap.size + 1 + 1, 3, none⟩) ?_ (by show w.heap.size ≤ w.heap.size + 1 + 1; omega) _; exact HB
  · skip
    with_reducible_and_instances refine skip_ (w1 := ?_) ?hw_ ?hN_ ?_ ?_
    (case hw_ => rfl)
    (case hN_ => rfl)
    rotate_left
    · go_simp; rfl
    refine hK.out _ _ (mk_far (by omega) hHeld) (fun hHeld => ?_); clear hK K; refine pv_ 18 (some 77) (bmz 24 511743) ?_; refine two_ (i := 8) (j := 19) (Ni := some 68) (Nj := none) (bmz 24 511999) (bmz 24 1036031) rfl rfl rfl rfl (by kernel_rfl) (by decide) (by decide) (fun K hK => ?_) (fun K hK => ?_)
    · skip
      with_reducible_and_instances refine value_ (w1 := ?_) (v := ?_) ?hw_ ?hN_ ?_ ?_
      (case hw_ => rfl)
      (case hN_ => rfl)
      rotate_left 2
      · go_simp; constructor
        · rfl
        · rfl
      refine hK.out _ _ ((World.cell?_alloc_lt _ _ _ (World.block_lt_of_cell? _ _ hHeld)).trans hHeld) (fun hHeld => ?_); clear hK K; refine no_ (some 68) ?_; refine gen_ (fun w4 a4 => ?_); (have a7 : w4.heap[w.heap.size + 1 + 1]? = some (.cells (eV 4 ⟨#[]⟩ ⟨#[]⟩ (wrap64 (1 + n)) 0 ⟨#[]⟩ 0 0 0 0 0 ⟨#[]⟩ ⟨#[]⟩ (.slice none 0 0) 0) 28 (0, 0)) := by rw [a4]; exact blk_alloc (blk_put (cs := (eV 4 ⟨#[]⟩ ⟨#[]⟩ 0 0 ⟨#[]⟩ 0 0 0 0 0 ⟨#[]⟩ ⟨#[]⟩ (.slice none 0 0) 0)) (q_e) 3 (.int .i64 (wrap64 (1 + n))) rfl) _); (have a5 : w4.heap[w.heap.size + 1]? = some (.cells (eV 0 ⟨#[]⟩ ⟨#[]⟩ 0 0 ⟨#[]⟩ 0 0 0 0 0 ⟨#[]⟩ ⟨#[]⟩ (.slice none 0 0) 0) 28 (0, 0)) := by rw [a4]; exact blk_alloc (blk_far (q_r) (p := ⟨w.heap.size + 1 + 1, 3, none⟩) (by show w.heap.size + 1 ≠ w.heap.size + 1 + 1; omega) _) _); (have HB : Below w.heap.size w w4 := by rw [a4]; exact below_alloc ((q_B).setCell (p := ⟨w.heap.size + 1 + 1, 3, none⟩) (by show w.heap.size ≤ w.heap.size + 1 + 1; omega) _) _); (have HT : w4.heap[W.heap.size]? = some (.cells #[(.string ⟨#[]⟩), (.string ⟨#[]⟩), (.string ⟨#[116, 48]⟩), (.string ⟨#[116, 49]⟩)] 9 (0, 0)) := by rw [a4]; exact mk_here (by simp)); (have a6 : W.heap.size ≠ w.heap.size + 1 + 1 := by have := blk_lt q_n; have h2 : w.heap.size + 1 + 1 + 1 < W.heap.size := this; omega); (have hHeld' : w4.cell? ⟨w.heap.size + 1 + 1 + 1, x.toNat, none⟩ = some (.string (nm3 x)) := by rw [a4]; exact hHeld); clear hHeld a4; obtain ⟨b4, b5, b6, b7, b8, b9, c0, c1, c2, c3, c4, c6, c7, c8, c9⟩ := cells15 (show w4.heap[w.heap.size + 1]? = _ from a5); obtain ⟨d0, d1, d2, d3, d4, d5, d6, d7, d8, d9, e5, e6, e7, e8, e9⟩ := free15 (show w4.heap[w.heap.size + 1]? = _ from a5); obtain ⟨f0, f1, f2, f3, f4, f5, f6, f7, f8, f9, g0, g1, g2, g3, g4⟩ := cells15 (show w4.heap[w.heap.size + 1 + 1]? = _ from a7); obtain ⟨g5, g6, g7, g8, g9, h0, h1, h3, h4, h5, h6, h7, h8, h9, i0⟩ := free15 (show w4.heap[w.heap.size + 1 + 1]? = _ from a7); refine restart2_ (S' := fun w' => w'.cell? ⟨w.heap.size + 1 + 1 + 1, x.toNat, none⟩ = some (.string (nm3 x)) ∧ w'.cell? ⟨W.heap.size, y.toNat, none⟩ = some (.string (tg4 y))) (fun _ h => (h.1)) ⟨hHeld', cell_tg4 HT (by omega) (by omega)⟩ (fun hHeld => ?_); refine pv_ 12 (some 72) (bmz 24 516095) ?_; refine tv_ 13 (some 73) (bmz 24 524287) hHeld ?_; refine one_ (i := 19) (N := none) (bmz 24 1048575) rfl rfl (by kernel_rfl) (by decide) (fun K hK => ?_)
      with_reducible_and_instances refine skip_ (w1 := ?_) ?hw_ ?hN_ ?_ ?_
      (case hw_ => rfl)
      (case hN_ => rfl)
      rotate_left
      · go_simp; rfl
      refine hK.out _ _ ⟨mk_far (by omega) hHeld.1, mk_far a6 hHeld.2⟩ (fun hHeld => ?_); clear hK K; refine pv_ 20 (some 78) (bmz 24 2097151) ?_; refine one_ (i := 21) (N := none) (bmz 24 4194303) rfl rfl (by kernel_rfl) (by decide) (fun K hK => ?_)
      with_reducible_and_instances refine skip_ (w1 := ?_) ?hw_ ?hN_ ?_ ?_
      (case hw_ => rfl)
      (case hN_ => rfl)
      rotate_left
      · go_simp; rfl
      refine hK.out _ _ ⟨mk_far (by omega) hHeld.1, mk_far a6 hHeld.2⟩ (fun hHeld => ?_); clear hK K; refine pv_ 22 (some 79) (bmz 24 8388607) ?_; refine one_ (i := 23) (N := none) (bmz 24 16777215) rfl rfl (by kernel_rfl) (by decide) (fun K hK => ?_)
      with_reducible_and_instances refine skip_ (w1 := ?_) ?hw_ ?hN_ ?_ ?_
      (case hw_ => rfl)
      (case hN_ => rfl)
      rotate_left
      · go_simp; rfl
      refine hK.out _ _ ⟨mk_far (by omega) hHeld.1, mk_far a6 hHeld.2⟩ (fun hHeld => ?_); clear hK K; refine done_ (by kernel_rfl) ?_; go_wp2_with fail
      refine bodyPost_ret (results_cell_row rfl _ _ (w.heap.size + 1) 28 (eV 4 (nm3 x) (tg4 y) (wrap64 (1 + n)) m ⟨#[]⟩ 0 0 0 0 0 ⟨#[]⟩ ⟨#[]⟩ (.slice none 0 0) 0) (0, 0) _ rfl (fin15 (by
        refine blk_far ?_ (p := ⟨w.heap.size + 1 + 1, 4, none⟩) (by show w.heap.size + 1 ≠ w.heap.size + 1 + 1; omega) _; refine blk_far ?_ (p := ⟨w.heap.size + 1 + 1, 2, none⟩) (by show w.heap.size + 1 ≠ w.heap.size + 1 + 1; omega) _; refine blk_far ?_ (p := ⟨w.heap.size + 1 + 1, 1, none⟩) (by show w.heap.size + 1 ≠ w.heap.size + 1 + 1; omega) _
        exact a5)) Tryd.underlying28 rfl (by kernel_rfl)) rfl ?_
      refine ⟨rfl, ?_⟩; refine below15 ?_ (by simp); refine Below.setCell (p := ⟨w.heap.size + 1 + 1, 4, none⟩) ?_ (by show w.heap.size ≤ w.heap.size + 1 + 1; omega) _; refine Below.setCell (p := ⟨w.heap.size + 1 + 1, 2, none⟩) ?_ (by show w.heap.size ≤ w.heap.size + 1 + 1; omega) _; refine Below.setCell (p := ⟨w.heap.size + 1 + 1, 1, none⟩) ?_ (by show w.heap.size ≤ w.heap.size + 1 + 1; omega) _; exact HB
    · skip
      with_reducible_and_instances refine skip_ (w1 := ?_) ?hw_ ?hN_ ?_ ?_
      (case hw_ => rfl)
      (case hN_ => rfl)
      rotate_left
      · go_simp; rfl
      refine hK.out _ _ (mk_far (by omega) hHeld) (fun hHeld => ?_); clear hK K; refine one_ (i := 8) (N := some 68) (bmz 24 1036287) rfl rfl (by kernel_rfl) (by decide) (fun K hK => ?_)
      with_reducible_and_instances refine value_ (w1 := ?_) (v := ?_) ?hw_ ?hN_ ?_ ?_
      (case hw_ => rfl)
      (case hN_ => rfl)
      rotate_left 2
      · go_simp; constructor
        · rfl
        · rfl
      refine hK.out _ _ ((World.cell?_alloc_lt _ _ _ (World.block_lt_of_cell? _ _ hHeld)).trans hHeld) (fun hHeld => ?_); clear hK K; refine no_ (some 68) ?_; refine gen_ (fun w4 a4 => ?_); (have a7 : w4.heap[w.heap.size + 1 + 1]? = some (.cells (eV 4 (nm3 x) ⟨#[]⟩ (wrap64 (1 + n)) 0 ⟨#[]⟩ 0 0 0 0 0 ⟨#[]⟩ ⟨#[]⟩ (.slice none 0 0) 0) 28 (0, 0)) := by rw [a4]; exact blk_alloc (blk_put (cs := (eV 4 ⟨#[]⟩ ⟨#[]⟩ (wrap64 (1 + n)) 0 ⟨#[]⟩ 0 0 0 0 0 ⟨#[]⟩ ⟨#[]⟩ (.slice none 0 0) 0)) (blk_put (cs := (eV 4 ⟨#[]⟩ ⟨#[]⟩ 0 0 ⟨#[]⟩ 0 0 0 0 0 ⟨#[]⟩ ⟨#[]⟩ (.slice none 0 0) 0)) (q_e) 3 (.int .i64 (wrap64 (1 + n))) rfl) 1 (.string (nm3 x)) rfl) _); (have a5 : w4.heap[w.heap.size + 1]? = some (.cells (eV 0 ⟨#[]⟩ ⟨#[]⟩ 0 0 ⟨#[]⟩ 0 0 0 0 0 ⟨#[]⟩ ⟨#[]⟩ (.slice none 0 0) 0) 28 (0, 0)) := by rw [a4]; exact blk_alloc (blk_far (blk_far (q_r) (p := ⟨w.heap.size + 1 + 1, 3, none⟩) (by show w.heap.size + 1 ≠ w.heap.size + 1 + 1; omega) _) (p := ⟨w.heap.size + 1 + 1, 1, none⟩) (by show w.heap.size + 1 ≠ w.heap.size + 1 + 1; omega) _) _); (have HB : Below w.heap.size w w4 := by rw [a4]; exact below_alloc (((q_B).setCell (p := ⟨w.heap.size + 1 + 1, 3, none⟩) (by show w.heap.size ≤ w.heap.size + 1 + 1; omega) _).setCell (p := ⟨w.heap.size + 1 + 1, 1, none⟩) (by show w.heap.size ≤ w.heap.size + 1 + 1; omega) _) _); (have HT : w4.heap[W.heap.size]? = some (.cells #[(.string ⟨#[]⟩), (.string ⟨#[]⟩), (.string ⟨#[116, 48]⟩), (.string ⟨#[116, 49]⟩)] 9 (0, 0)) := by rw [a4]; exact mk_here (by simp)); (have a6 : W.heap.size ≠ w.heap.size + 1 + 1 := by have := blk_lt q_n; have h2 : w.heap.size + 1 + 1 + 1 < W.heap.size := this; omega); (have hHeld' : w4.cell? ⟨w.heap.size + 1 + 1 + 1, x.toNat, none⟩ = some (.string (nm3 x)) := by rw [a4]; exact hHeld); clear hHeld a4; obtain ⟨b4, b5, b6, b7, b8, b9, c0, c1, c2, c3, c4, c6, c7, c8, c9⟩ := cells15 (show w4.heap[w.heap.size + 1]? = _ from a5); obtain ⟨d0, d1, d2, d3, d4, d5, d6, d7, d8, d9, e5, e6, e7, e8, e9⟩ := free15 (show w4.heap[w.heap.size + 1]? = _ from a5); obtain ⟨f0, f1, f2, f3, f4, f5, f6, f7, f8, f9, g0, g1, g2, g3, g4⟩ := cells15 (show w4.heap[w.heap.size + 1 + 1]? = _ from a7); obtain ⟨g5, g6, g7, g8, g9, h0, h1, h3, h4, h5, h6, h7, h8, h9, i0⟩ := free15 (show w4.heap[w.heap.size + 1 + 1]? = _ from a7); refine restart2_ (S' := fun w' => w'.cell? ⟨w.heap.size + 1 + 1 + 1, x.toNat, none⟩ = some (.string (nm3 x)) ∧ w'.cell? ⟨W.heap.size, y.toNat, none⟩ = some (.string (tg4 y))) (fun _ h => (h.1)) ⟨hHeld', cell_tg4 HT (by omega) (by omega)⟩ (fun hHeld => ?_); refine pv_ 12 (some 72) (bmz 24 1040383) ?_; refine tv_ 13 (some 73) (bmz 24 1048575) hHeld ?_; refine pv_ 20 (some 78) (bmz 24 2097151) ?_; refine one_ (i := 21) (N := none) (bmz 24 4194303) rfl rfl (by kernel_rfl) (by decide) (fun K hK => ?_)
      with_reducible_and_instances refine skip_ (w1 := ?_) ?hw_ ?hN_ ?_ ?_
      (case hw_ => rfl)
      (case hN_ => rfl)
      rotate_left
      · go_simp; rfl
      refine hK.out _ _ ⟨mk_far (by omega) hHeld.1, mk_far a6 hHeld.2⟩ (fun hHeld => ?_); clear hK K; refine pv_ 22 (some 79) (bmz 24 8388607) ?_; refine one_ (i := 23) (N := none) (bmz 24 16777215) rfl rfl (by kernel_rfl) (by decide) (fun K hK => ?_)
      with_reducible_and_instances refine skip_ (w1 := ?_) ?hw_ ?hN_ ?_ ?_
      (case hw_ => rfl)
      (case hN_ => rfl)
      rotate_left
      · go_simp; rfl
      refine hK.out _ _ ⟨mk_far (by omega) hHeld.1, mk_far a6 hHeld.2⟩ (fun hHeld => ?_); clear hK K; refine done_ (by kernel_rfl) ?_; go_wp2_with fail
      refine bodyPost_ret (results_cell_row rfl _ _ (w.heap.size + 1) 28 (eV 4 (nm3 x) (tg4 y) (wrap64 (1 + n)) m ⟨#[]⟩ 0 0 0 0 0 ⟨#[]⟩ ⟨#[]⟩ (.slice none 0 0) 0) (0, 0) _ rfl (fin15 (by
        refine blk_far ?_ (p := ⟨w.heap.size + 1 + 1, 4, none⟩) (by show w.heap.size + 1 ≠ w.heap.size + 1 + 1; omega) _; refine blk_far ?_ (p := ⟨w.heap.size + 1 + 1, 2, none⟩) (by show w.heap.size + 1 ≠ w.heap.size + 1 + 1; omega) _
        exact a5)) Tryd.underlying28 rfl (by kernel_rfl)) rfl ?_
      refine ⟨rfl, ?_⟩; refine below15 ?_ (by simp); refine Below.setCell (p := ⟨w.heap.size + 1 + 1, 4, none⟩) ?_ (by show w.heap.size ≤ w.heap.size + 1 + 1; omega) _; refine Below.setCell (p := ⟨w.heap.size + 1 + 1, 2, none⟩) ?_ (by show w.heap.size ≤ w.heap.size + 1 + 1; omega) _; exact HB
end Go.Proofs.YtalpoojepffldaaDoor.Ma
