/- Arms of Make: what each kind of event is made of (drop). -/
import Derived.Test.YtalpoojepffldaaDoorMax0
import Derived.Test.YtalpoojepffldaaDoorPb
import Derived.Test.YtalpoojepffldaaDoorMka
import Derived.Lib.Hide
namespace Go.Proofs.YtalpoojepffldaaDoor.Ma
open Go.RowKit Go.Proofs.YtalpoojepffldaaDoorW.PrintWords Go.Proofs.YtalpoojepffldaaDoorW.PrintLast Go.Proofs.YtalpoojepffldaaDoorW.PrintMore
set_option linter.unusedVariables false
set_option linter.unusedSimpArgs false
set_option maxHeartbeats 8000000 in
set_option maxRecDepth 100000 in
theorem mk_drop (a0 a1 a2 a3 : Int) (a6 : ByteArray) (a7 a8 a9 b0 b1 : Int) (A5 : Option Addr) (c5 n5 : Nat) (w : World) (hk : wi a0 13 = 2) :
    Calls Tryd.prog 14 #[.int .i64 a0, .int .i64 a1, .int .i64 a2, .int .i64 a3, .agg #[.string a6, .int .i64 a7, .int .i64 a8, .int .i64 a9, .int .i64 b0, .int .i64 b1], .slice A5 n5 c5] w fun e w' => e = .returned (.agg (eV 3 (nm6 (wi a3 6)) ⟨#[]⟩ (1 + wi a1 2) (wi a2 30) ⟨#[]⟩ 0 0 0 0 0 ⟨#[]⟩ ⟨#[]⟩ (.slice none 0 0) 0)) ∧ Below w.heap.size w w' := by
  obtain ⟨n, hn⟩ : ∃ n, wi a1 2 = n := ⟨_, rfl⟩; have bn := wi_bd hn (by decide) (by decide); rw [hn]; obtain ⟨m, hm⟩ : ∃ n, wi a2 30 = n := ⟨_, rfl⟩; have bm := wi_bd hm (by decide) (by decide); rw [hm]; obtain ⟨x, hx⟩ : ∃ n, wi a3 6 = n := ⟨_, rfl⟩; have bndx := wi_bd hx (by decide) (by decide); rw [hx]; have ex0 := eq_true (show (0 : Int) ≤ x by omega); have ex1 := eq_true (show x < 6 by omega); have ex2 : decide (x < 6) = true := decide_eq_true (by omega); (have hw : wrap64 (1 + n) = 1 + n := by unfold wrap64; omega); rw [← hw]; clear hw; go_enter Tryd.func14, Tryd.ntmps14; go_wp2_with fail; refine (damperlaw3_within.keep a0 13 hk (by decide) _).mono ?_; rintro e w1 ⟨rfl, rfl⟩; go_wp2_with fail; generalize hW : World.alloc (World.alloc (World.alloc (World.alloc w _) _) _) _ = W
  have q_c : W.drew.heap[w.heap.size]? = some (.cells #[.string a6, .int .i64 a7, .int .i64 a8, .int .i64 a9, .int .i64 b0, .int .i64 b1] 23 (0, 0)) := by
    rw [← hW]; refine blk_drew ?_
    repeat (first | exact mk_here (by first | omega | (simp only [World.size_alloc] <;> omega)) | refine mk_skip (by first | omega | (simp only [World.size_alloc] <;> omega)) ?_)
  have q_r : W.drew.heap[w.heap.size + 1]? = some (.cells (eV 0 ⟨#[]⟩ ⟨#[]⟩ 0 0 ⟨#[]⟩ 0 0 0 0 0 ⟨#[]⟩ ⟨#[]⟩ (.slice none 0 0) 0) 28 (0, 0)) := by
    rw [← hW]; refine blk_drew ?_
    repeat (first | exact mk_here (by first | omega | (simp only [World.size_alloc] <;> omega)) | refine mk_skip (by first | omega | (simp only [World.size_alloc] <;> omega)) ?_)
  have q_e : W.drew.heap[w.heap.size + 1 + 1]? = some (.cells (eV 3 ⟨#[]⟩ ⟨#[]⟩ 0 0 ⟨#[]⟩ 0 0 0 0 0 ⟨#[]⟩ ⟨#[]⟩ (.slice none 0 0) 0) 28 (0, 0)) := by
    rw [← hW]; refine blk_drew ?_
    repeat (first | exact mk_here (by first | omega | (simp only [World.size_alloc] <;> omega)) | refine mk_skip (by first | omega | (simp only [World.size_alloc] <;> omega)) ?_)
  have q_n : W.drew.heap[w.heap.size + 1 + 1 + 1]? = some (.cells #[.string ⟨#[102, 114, 111, 110, 116]⟩, .string ⟨#[98, 97, 99, 107]⟩, .string ⟨#[114, 45, 49]⟩] 9 (0, 0)) := by
    rw [← hW]; refine blk_drew ?_
    repeat (first | exact mk_here (by first | omega | (simp only [World.size_alloc] <;> omega)) | refine mk_skip (by first | omega | (simp only [World.size_alloc] <;> omega)) ?_)
  have q_B : Below w.heap.size w W.drew := by
    rw [← hW]; exact below_drew1 (below_alloc (below_alloc (below_alloc (below_alloc (Below.refl _ _) _) _) _) _)
  clear hW; refine start_ (n := 18) (S := fun w' => True) (ds := []) (bmz 18 0) (by kernel_rfl) rfl rfl trivial (fun hHeld => ?_); refine pv_ 0 (some 43) (bmz 18 1) ?_; refine callp_ (i := 1) (N := some 44) (a' := ?a2_) (bmz 18 3) rfl rfl (by kernel_rfl) (fun _ _ _ h => h) (by rfl) Tryd.func17 (by kernel_rfl) rfl rfl (by (try simp only [List.map_toArray, List.map_cons, List.map_nil]); rfl) (damperlaw3_within.same _ _ (r := ?jj2_) ?hj2_ au2) ?ha2_ ?h2_
  (case hj2_ => (try simp only [i64_w, i32_w]); first | assumption | (go_simp; rfl))
  (case ha2_ => simp only [Act.put, List.setIfInBounds_toArray, List.set_cons_zero, List.set_cons_succ, i64_w, i32_w]; rfl)
  refine pv_ 2 (some 45) (bmz 18 7) ?_; refine pv_ 3 (some 46) (bmz 18 15) ?_; refine pv_ 6 (some 49) (bmz 18 79) ?_; refine pv_ 10 (some 53) (bmz 18 1103) ?_; refine pv_ 12 (some 55) (bmz 18 5199) ?_; refine one_ (i := 4) (N := some 47) (bmz 18 5215) rfl rfl (by kernel_rfl) (by decide) (fun K hK => ?_)
  with_reducible_and_instances refine value_ (w1 := ?_) (v := ?_) ?hw_ ?hN_ ?_ ?_
  (case hw_ => rfl)
  (case hN_ => rfl)
  rotate_left 2
  · go_simp; constructor
    · rfl
    · rfl
  refine hK.out _ _ trivial (fun hHeld => ?_); clear hK K; refine no_ (some 47) ?_; refine one_ (i := 5) (N := some 48) (bmz 18 5247) rfl rfl (by kernel_rfl) (by decide) (fun K hK => ?_); obtain ⟨i0, hi, b3, b4, b5⟩ := info_parts info9; have hsz : W.drew.heap.size = W.heap.size := rfl; have hlt3 : w.heap.size + 1 + 1 + 1 < W.heap.size := blk_lt q_n; have hown : (W.drew.alloc (.cells #[(.string ⟨#[119, 101, 98]⟩), (.string ⟨#[97, 112, 105]⟩), (.string ⟨#[97, 45, 98]⟩)] 9)).ownsRow w.heap.size 9 1 (.slice (some ⟨w.heap.size + 1 + 1 + 1, 0, none⟩) 3 3) 3 [(.string ⟨#[102, 114, 111, 110, 116]⟩), (.string ⟨#[98, 97, 99, 107]⟩), (.string ⟨#[114, 45, 49]⟩)] := ⟨rfl, .inr ⟨w.heap.size + 1 + 1 + 1, 3, _, rfl, by omega, blk_alloc q_n _, Nat.le_refl _, by decide, rfl, rfl⟩⟩; have b6 := blk_new W.drew (.cells #[(.string ⟨#[119, 101, 98]⟩), (.string ⟨#[97, 112, 105]⟩), (.string ⟨#[97, 45, 98]⟩)] 9 (0, 0)); refine step_append_lies _ (by rfl) (.tmp 46) (.tmp 47) 61 (by rfl) w.heap.size 9 i0 (.string ⟨#[]⟩) 1 16 Tryd.underlying61 hi b3 b4 b5 rfl (by decide) _ 3 _ (by rfl) hown ⟨W.drew.heap.size, 0, none⟩ 3 3 [(.string ⟨#[119, 101, 98]⟩), (.string ⟨#[97, 112, 105]⟩), (.string ⟨#[97, 45, 98]⟩)] (by rfl) rfl (World.news_of_block b6) (by simp [Value.oneCell']) (by decide) (by decide) (by decide) (by simp; omega) _ rfl (fun g cap w4 b7 hgrow hat hlt => ?_); refine hK.out _ _ trivial (fun hHeld => ?_); clear hK K; refine no_ (some 48) ?_; (have b8 : some (w.heap.size + 1) ≠ (Value.slice (some ⟨w.heap.size + 1 + 1 + 1, 0, none⟩) 3 3).ownBlock := by simp [Value.ownBlock]); (have b9 : some (w.heap.size + 1 + 1) ≠ (Value.slice (some ⟨w.heap.size + 1 + 1 + 1, 0, none⟩) 3 3).ownBlock := by simp [Value.ownBlock]); have a4 := blk_grown (blk_alloc q_r _) hgrow b8; have b2 := blk_grown (blk_alloc q_e _) hgrow b9; have HB : Below w.heap.size w w4 := pw_below_grown (below_alloc q_B _) _ (by simp; omega) hgrow (by simp [Value.ownBlock]; omega)
  have hg1 : g ≠ w.heap.size + 1 := by
      rcases hat with h | h
      · simp [Value.ownBlock] at h; omega
      · have h2 : g = (W.alloc _).heap.size := h; rw [World.size_alloc] at h2; omega
  have a5 : g ≠ w.heap.size + 1 + 1 := by
      rcases hat with h | h
      · simp [Value.ownBlock] at h; omega
      · have h2 : g = (W.alloc _).heap.size := h; rw [World.size_alloc] at h2; omega
  have hcell : w4.cell? ⟨g, x.toNat, none⟩ = some (.string (nm6 x)) := by
      rcases (show x = 0 ∨ x = 1 ∨ x = 2 ∨ x = 3 ∨ x = 4 ∨ x = 5 by omega) with rfl | rfl | rfl | rfl | rfl | rfl <;> exact mk_cell b7 (by decide) rfl
  obtain ⟨zr0, zr1, zr2, zr3, zr4, zr5, zr6, zr7, zr8, zr9, zr10, zr11, zr12, zr13, zr14⟩ := cells15 (show w4.heap[w.heap.size + 1]? = _ from a4); obtain ⟨fzr0, fzr1, fzr2, fzr3, fzr4, fzr5, fzr6, fzr7, fzr8, fzr9, c0, c1, c2, c3, c4⟩ := free15 (show w4.heap[w.heap.size + 1]? = _ from a4); obtain ⟨ze0, ze1, ze2, ze3, ze4, ze5, ze6, ze7, ze8, ze9, ze10, ze11, ze12, ze13, ze14⟩ := cells15 (show w4.heap[w.heap.size + 1 + 1]? = _ from b2); obtain ⟨fze0, fze1, fze2, fze3, fze4, fze5, fze6, fze7, fze8, fze9, c6, c7, c8, c9, d0⟩ := free15 (show w4.heap[w.heap.size + 1 + 1]? = _ from b2); refine restart_ (S' := fun w' => w'.cell? ⟨g, x.toNat, none⟩ = some (.string (nm6 x))) (ds' := []) (hcell) (fun hHeld => ?_); refine callp_ (i := 7) (N := some 50) (a' := ?a3_) (bmz 18 5375) rfl rfl (by kernel_rfl) (fun _ _ _ h => h) (by rfl) Tryd.func17 (by kernel_rfl) rfl rfl (by (try simp only [List.map_toArray, List.map_cons, List.map_nil]); rfl) (damperlaw3_within.same _ _ (r := ?jj3_) ?hj3_ au2) ?ha3_ ?h3_
  (case hj3_ => (try simp only [i64_w, i32_w]); first | assumption | (go_simp; rfl))
  (case ha3_ => simp only [Act.put, List.setIfInBounds_toArray, List.set_cons_zero, List.set_cons_succ, i64_w, i32_w]; rfl)
  refine pv_ 8 (some 51) (bmz 18 5631) ?_; refine callp_ (i := 11) (N := some 54) (a' := ?a4_) (bmz 18 7679) rfl rfl (by kernel_rfl) (fun _ _ _ h => h) (by rfl) Tryd.func17 (by kernel_rfl) rfl rfl (by (try simp only [List.map_toArray, List.map_cons, List.map_nil]); rfl) (damperlaw3_within.same _ _ (r := ?jj4_) ?hj4_ au2) ?ha4_ ?h4_
  (case hj4_ => (try simp only [i64_w, i32_w]); first | assumption | (go_simp; rfl))
  (case ha4_ => simp only [Act.put, List.setIfInBounds_toArray, List.set_cons_zero, List.set_cons_succ, i64_w, i32_w]; rfl)
  refine tv_ 9 (some 52) (bmz 18 8191) hHeld ?_; refine one_ (i := 13) (N := none) (bmz 18 16383) rfl rfl (by kernel_rfl) (by decide) (fun K hK => ?_)
  with_reducible_and_instances refine skip_ (w1 := ?_) ?hw_ ?hN_ ?_ ?_
  (case hw_ => rfl)
  (case hN_ => rfl)
  rotate_left
  · go_simp; rfl
  refine hK.out _ _ (mk_far a5 hHeld) (fun hHeld => ?_); clear hK K; refine pv_ 14 (some 56) (bmz 18 32767) ?_; refine one_ (i := 15) (N := none) (bmz 18 65535) rfl rfl (by kernel_rfl) (by decide) (fun K hK => ?_)
  with_reducible_and_instances refine skip_ (w1 := ?_) ?hw_ ?hN_ ?_ ?_
  (case hw_ => rfl)
  (case hN_ => rfl)
  rotate_left
  · go_simp; rfl
  refine hK.out _ _ (mk_far a5 hHeld) (fun hHeld => ?_); clear hK K; refine pv_ 16 (some 57) (bmz 18 131071) ?_; refine one_ (i := 17) (N := none) (bmz 18 262143) rfl rfl (by kernel_rfl) (by decide) (fun K hK => ?_)
  with_reducible_and_instances refine skip_ (w1 := ?_) ?hw_ ?hN_ ?_ ?_
  (case hw_ => rfl)
  (case hN_ => rfl)
  rotate_left
  · go_simp; rfl
  refine hK.out _ _ (mk_far a5 hHeld) (fun hHeld => ?_); clear hK K; refine done_ (by kernel_rfl) ?_; go_wp2_with fail
  refine bodyPost_ret (results_cell_row rfl _ _ (w.heap.size + 1) 28 (eV 3 (nm6 x) ⟨#[]⟩ (wrap64 (1 + n)) m ⟨#[]⟩ 0 0 0 0 0 ⟨#[]⟩ ⟨#[]⟩ (.slice none 0 0) 0) (0, 0) _ rfl (fin15 (by
    refine blk_far ?_ (p := ⟨w.heap.size + 1 + 1, 4, none⟩) (by show w.heap.size + 1 ≠ w.heap.size + 1 + 1; omega) _; refine blk_far ?_ (p := ⟨w.heap.size + 1 + 1, 1, none⟩) (by show w.heap.size + 1 ≠ w.heap.size + 1 + 1; omega) _; refine blk_far ?_ (p := ⟨w.heap.size + 1 + 1, 3, none⟩) (by show w.heap.size + 1 ≠ w.heap.size + 1 + 1; omega) _
    exact a4)) Tryd.underlying28 rfl (by kernel_rfl)) rfl ?_
  refine ⟨rfl, ?_⟩; refine below15 ?_ (by simp); refine Below.setCell (p := ⟨w.heap.size + 1 + 1, 4, none⟩) ?_ (by show w.heap.size ≤ w.heap.size + 1 + 1; omega) _; refine Below.setCell (p := ⟨w.heap.size + 1 + 1, 1, none⟩) ?_ (by show w.heap.size ≤ w.heap.size + 1 + 1; omega) _; refine Below.setCell (p := ⟨w.heap.size + 1 + 1, 3, none⟩) ?_ (by show w.heap.size ≤ w.heap.size + 1 + 1; omega) _; exact HB
end Go.Proofs.YtalpoojepffldaaDoor.Ma
