/- The document's Check, kind by kind (Ckb). -/
import Derived.Test.YtalpoojepffldaaDoorMax0
import Derived.Test.YtalpoojepffldaaDoorCk
import Derived.Lib.Hide
namespace Go.Proofs.YtalpoojepffldaaDoor.Ma
open Go.RowKit Go.Proofs.YtalpoojepffldaaDoorW.PrintWords Go.Proofs.YtalpoojepffldaaDoorW.PrintLast Go.Proofs.YtalpoojepffldaaDoorW.PrintMore
set_option linter.unusedVariables false
set_option linter.unusedSimpArgs false
open Ck
set_option maxHeartbeats 8000000 in
set_option maxRecDepth 100000 in
theorem kept_4 (nm tg : ByteArray) (n dr : Int) (c0 : ByteArray) (c1 c2 c3 c4 c5 : Int) (rn rc : ByteArray) (A : Option Addr) (c : Nat) (l : List S39) (ro : Int) (w : World) :
    Calls Tryd.prog 41 #[.agg (eV 4 nm tg n dr c0 c1 c2 c3 c4 c5 rn rc (.slice A l.length c) ro)] w fun e w' => e = .returned (.agg (eV 4 nm tg n dr ⟨#[]⟩ 0 0 0 0 0 ⟨#[]⟩ ⟨#[]⟩ (.slice none 0 0) 0)) ∧ Below w.heap.size w w' := by
  go_enter Tryd.func41, Tryd.ntmps41; go_wp2_with fail; generalize hW : World.alloc (World.alloc (World.alloc w _) _) _ = W
  have q_p : W.drew.heap[w.heap.size]? = some (.cells (eV 4 nm tg n dr c0 c1 c2 c3 c4 c5 rn rc (.slice A l.length c) ro) 28 (0, 0)) := by
    rw [← hW]; refine blk_drew ?_
    repeat (first | exact ck_here (by first | omega | (simp only [World.size_alloc] <;> omega)) | refine ck_skip (by first | omega | (simp only [World.size_alloc] <;> omega)) ?_)
  have q_r : W.drew.heap[w.heap.size + 1]? = some (.cells (eV 0 ⟨#[]⟩ ⟨#[]⟩ 0 0 ⟨#[]⟩ 0 0 0 0 0 ⟨#[]⟩ ⟨#[]⟩ (.slice none 0 0) 0) 28 (0, 0)) := by
    rw [← hW]; refine blk_drew ?_
    repeat (first | exact ck_here (by first | omega | (simp only [World.size_alloc] <;> omega)) | refine ck_skip (by first | omega | (simp only [World.size_alloc] <;> omega)) ?_)
  have q_e : W.drew.heap[w.heap.size + 1 + 1]? = some (.cells (eV 4 ⟨#[]⟩ ⟨#[]⟩ 0 0 ⟨#[]⟩ 0 0 0 0 0 ⟨#[]⟩ ⟨#[]⟩ (.slice none 0 0) 0) 28 (0, 0)) := by
    rw [← hW]; refine blk_drew ?_
    repeat (first | exact ck_here (by first | omega | (simp only [World.size_alloc] <;> omega)) | refine ck_skip (by first | omega | (simp only [World.size_alloc] <;> omega)) ?_)
  have q_B : Below w.heap.size w W.drew := by
    rw [← hW]; exact below_drew1 (below_alloc (below_alloc (below_alloc (Below.refl _ _) _) _) _)
  clear hW; refine start_ (n := 16) (S := fun w' => w'.cell? ⟨w.heap.size, 3, none⟩ = some (.int .i64 n) ∧ w'.cell? ⟨w.heap.size, 1, none⟩ = some (.string nm) ∧ w'.cell? ⟨w.heap.size, 2, none⟩ = some (.string tg) ∧ w'.cell? ⟨w.heap.size, 4, none⟩ = some (.int .i64 dr)) (ds := []) #[false, false, false, false, false, false, false, false, false, false, false, false, false, false, false, false] (by kernel_rfl) rfl rfl ⟨(blk_cell q_p 3).trans rfl, (blk_cell q_p 1).trans rfl, (blk_cell q_p 2).trans rfl, (blk_cell q_p 4).trans rfl⟩ (fun hHeld => ?_); refine gen_ (fun w4 a0 => ?_); rw [← a0] at q_p q_r q_e q_B hHeld; clear a0; obtain ⟨ye0, ye1, ye2, ye3, ye4, ye5, ye6, ye7, ye8, ye9, ye10, ye11, ye12, ye13, ye14⟩ := cells15 q_e; obtain ⟨fe0, fe1, fe2, fe3, fe4, fe5, fe6, fe7, fe8, fe9, fe10, fe11, fe12, fe13, fe14⟩ := free15 q_e; obtain ⟨yr0, yr1, yr2, yr3, yr4, yr5, yr6, yr7, yr8, yr9, yr10, yr11, yr12, yr13, yr14⟩ := cells15 q_r; obtain ⟨fr0, fr1, fr2, fr3, fr4, fr5, fr6, fr7, fr8, fr9, fr10, fr11, fr12, fr13, fr14⟩ := free15 q_r; refine pv_ 0 (some 38) #[true, false, false, false, false, false, false, false, false, false, false, false, false, false, false, false] ?_; refine pv_ 2 (some 40) #[true, false, true, false, false, false, false, false, false, false, false, false, false, false, false, false] ?_; refine pv_ 4 (some 42) #[true, false, true, false, true, false, false, false, false, false, false, false, false, false, false, false] ?_; refine pv_ 6 (some 44) #[true, false, true, false, true, false, true, false, false, false, false, false, false, false, false, false] ?_; refine tv_ 1 (some 39) #[true, true, true, false, true, false, true, false, false, false, false, false, false, false, false, false] hHeld ?_; refine pv_ 8 (some 46) #[true, true, true, false, true, false, true, false, true, false, false, false, false, false, false, false] ?_; refine tv_ 3 (some 41) #[true, true, true, true, true, false, true, false, true, false, false, false, false, false, false, false] hHeld ?_; refine tv_ 5 (some 43) #[true, true, true, true, true, true, true, false, true, false, false, false, false, false, false, false] hHeld ?_; refine tv_ 7 (some 45) #[true, true, true, true, true, true, true, true, true, false, false, false, false, false, false, false] hHeld ?_; refine one_ (i := 9) (N := none) #[true, true, true, true, true, true, true, true, true, true, false, false, false, false, false, false] rfl rfl (by kernel_rfl) (by decide) (fun K hK => ?_)
  with_reducible_and_instances refine skip_ (w1 := ?_) ?hw_ ?hN_ ?_ ?_
  (case hw_ => rfl)
  (case hN_ => rfl)
  rotate_left
  · go_simp; rfl
  refine hK.out _ _ ⟨ck_cell (by omega) (hHeld.1), ck_cell (by omega) (hHeld.2.1), ck_cell (by omega) (hHeld.2.2.1), ck_cell (by omega) (hHeld.2.2.2)⟩ (fun hHeld => ?_); clear hK K; refine pv_ 10 (some 47) #[true, true, true, true, true, true, true, true, true, true, true, false, false, false, false, false] ?_; refine one_ (i := 11) (N := none) #[true, true, true, true, true, true, true, true, true, true, true, true, false, false, false, false] rfl rfl (by kernel_rfl) (by decide) (fun K hK => ?_)
  with_reducible_and_instances refine skip_ (w1 := ?_) ?hw_ ?hN_ ?_ ?_
  (case hw_ => rfl)
  (case hN_ => rfl)
  rotate_left
  · go_simp; rfl
  refine hK.out _ _ ⟨ck_cell (by omega) (hHeld.1), ck_cell (by omega) (hHeld.2.1), ck_cell (by omega) (hHeld.2.2.1), ck_cell (by omega) (hHeld.2.2.2)⟩ (fun hHeld => ?_); clear hK K; refine pv_ 12 (some 48) #[true, true, true, true, true, true, true, true, true, true, true, true, true, false, false, false] ?_; refine one_ (i := 13) (N := none) #[true, true, true, true, true, true, true, true, true, true, true, true, true, true, false, false] rfl rfl (by kernel_rfl) (by decide) (fun K hK => ?_)
  with_reducible_and_instances refine skip_ (w1 := ?_) ?hw_ ?hN_ ?_ ?_
  (case hw_ => rfl)
  (case hN_ => rfl)
  rotate_left
  · go_simp; rfl
  refine hK.out _ _ ⟨ck_cell (by omega) (hHeld.1), ck_cell (by omega) (hHeld.2.1), ck_cell (by omega) (hHeld.2.2.1), ck_cell (by omega) (hHeld.2.2.2)⟩ (fun hHeld => ?_); clear hK K; refine pv_ 14 (some 49) #[true, true, true, true, true, true, true, true, true, true, true, true, true, true, true, false] ?_; refine one_ (i := 15) (N := none) #[true, true, true, true, true, true, true, true, true, true, true, true, true, true, true, true] rfl rfl (by kernel_rfl) (by decide) (fun K hK => ?_)
  with_reducible_and_instances refine skip_ (w1 := ?_) ?hw_ ?hN_ ?_ ?_
  (case hw_ => rfl)
  (case hN_ => rfl)
  rotate_left
  · go_simp; rfl
  refine hK.out _ _ ⟨ck_cell (by omega) (hHeld.1), ck_cell (by omega) (hHeld.2.1), ck_cell (by omega) (hHeld.2.2.1), ck_cell (by omega) (hHeld.2.2.2)⟩ (fun hHeld => ?_); clear hK K; refine done_ (by kernel_rfl) ?_; go_wp2_with fail
  refine bodyPost_ret (results_cell_row rfl _ _ (w.heap.size + 1) 28 (eV 4 nm tg n dr ⟨#[]⟩ 0 0 0 0 0 ⟨#[]⟩ ⟨#[]⟩ (.slice none 0 0) 0) (0, 0) _ rfl (by
    refine blk_put (cs := (eV 4 nm tg n dr ⟨#[]⟩ 0 0 0 0 0 ⟨#[]⟩ ⟨#[]⟩ (.slice none 0 0) 0)) ?_ 14 _ rfl; refine blk_put (cs := (eV 4 nm tg n dr ⟨#[]⟩ 0 0 0 0 0 ⟨#[]⟩ ⟨#[]⟩ (.slice none 0 0) 0)) ?_ 13 _ rfl; refine blk_put (cs := (eV 4 nm tg n dr ⟨#[]⟩ 0 0 0 0 0 ⟨#[]⟩ ⟨#[]⟩ (.slice none 0 0) 0)) ?_ 12 _ rfl; refine blk_put (cs := (eV 4 nm tg n dr ⟨#[]⟩ 0 0 0 0 0 ⟨#[]⟩ ⟨#[]⟩ (.slice none 0 0) 0)) ?_ 11 _ rfl; refine blk_put (cs := (eV 4 nm tg n dr ⟨#[]⟩ 0 0 0 0 0 ⟨#[]⟩ ⟨#[]⟩ (.slice none 0 0) 0)) ?_ 10 _ rfl; refine blk_put (cs := (eV 4 nm tg n dr ⟨#[]⟩ 0 0 0 0 0 ⟨#[]⟩ ⟨#[]⟩ (.slice none 0 0) 0)) ?_ 9 _ rfl; refine blk_put (cs := (eV 4 nm tg n dr ⟨#[]⟩ 0 0 0 0 0 ⟨#[]⟩ ⟨#[]⟩ (.slice none 0 0) 0)) ?_ 8 _ rfl; refine blk_put (cs := (eV 4 nm tg n dr ⟨#[]⟩ 0 0 0 0 0 ⟨#[]⟩ ⟨#[]⟩ (.slice none 0 0) 0)) ?_ 7 _ rfl; refine blk_put (cs := (eV 4 nm tg n dr ⟨#[]⟩ 0 0 0 0 0 ⟨#[]⟩ ⟨#[]⟩ (.slice none 0 0) 0)) ?_ 6 _ rfl; refine blk_put (cs := (eV 4 nm tg n dr ⟨#[]⟩ 0 0 0 0 0 ⟨#[]⟩ ⟨#[]⟩ (.slice none 0 0) 0)) ?_ 5 _ rfl; refine blk_put (cs := (eV 4 nm tg n 0 ⟨#[]⟩ 0 0 0 0 0 ⟨#[]⟩ ⟨#[]⟩ (.slice none 0 0) 0)) ?_ 4 _ rfl; refine blk_put (cs := (eV 4 nm tg 0 0 ⟨#[]⟩ 0 0 0 0 0 ⟨#[]⟩ ⟨#[]⟩ (.slice none 0 0) 0)) ?_ 3 _ rfl; refine blk_put (cs := (eV 4 nm ⟨#[]⟩ 0 0 ⟨#[]⟩ 0 0 0 0 0 ⟨#[]⟩ ⟨#[]⟩ (.slice none 0 0) 0)) ?_ 2 _ rfl; refine blk_put (cs := (eV 4 ⟨#[]⟩ ⟨#[]⟩ 0 0 ⟨#[]⟩ 0 0 0 0 0 ⟨#[]⟩ ⟨#[]⟩ (.slice none 0 0) 0)) ?_ 1 _ rfl; refine blk_put (cs := (eV 0 ⟨#[]⟩ ⟨#[]⟩ 0 0 ⟨#[]⟩ 0 0 0 0 0 ⟨#[]⟩ ⟨#[]⟩ (.slice none 0 0) 0)) ?_ 0 _ rfl; refine blk_far ?_ (p := ⟨w.heap.size + 1 + 1, 4, none⟩) (by show w.heap.size + 1 ≠ w.heap.size + 1 + 1; omega) _; refine blk_far ?_ (p := ⟨w.heap.size + 1 + 1, 2, none⟩) (by show w.heap.size + 1 ≠ w.heap.size + 1 + 1; omega) _; refine blk_far ?_ (p := ⟨w.heap.size + 1 + 1, 1, none⟩) (by show w.heap.size + 1 ≠ w.heap.size + 1 + 1; omega) _; refine blk_far ?_ (p := ⟨w.heap.size + 1 + 1, 3, none⟩) (by show w.heap.size + 1 ≠ w.heap.size + 1 + 1; omega) _
    exact q_r) Tryd.underlying28 rfl (by kernel_rfl)) rfl ?_
  refine ⟨rfl, ?_⟩; refine Below.setCell (p := ⟨w.heap.size + 1, 14, none⟩) ?_ (by simp) _; refine Below.setCell (p := ⟨w.heap.size + 1, 13, none⟩) ?_ (by simp) _; refine Below.setCell (p := ⟨w.heap.size + 1, 12, none⟩) ?_ (by simp) _; refine Below.setCell (p := ⟨w.heap.size + 1, 11, none⟩) ?_ (by simp) _; refine Below.setCell (p := ⟨w.heap.size + 1, 10, none⟩) ?_ (by simp) _; refine Below.setCell (p := ⟨w.heap.size + 1, 9, none⟩) ?_ (by simp) _; refine Below.setCell (p := ⟨w.heap.size + 1, 8, none⟩) ?_ (by simp) _; refine Below.setCell (p := ⟨w.heap.size + 1, 7, none⟩) ?_ (by simp) _; refine Below.setCell (p := ⟨w.heap.size + 1, 6, none⟩) ?_ (by simp) _; refine Below.setCell (p := ⟨w.heap.size + 1, 5, none⟩) ?_ (by simp) _; refine Below.setCell (p := ⟨w.heap.size + 1, 4, none⟩) ?_ (by simp) _; refine Below.setCell (p := ⟨w.heap.size + 1, 3, none⟩) ?_ (by simp) _; refine Below.setCell (p := ⟨w.heap.size + 1, 2, none⟩) ?_ (by simp) _; refine Below.setCell (p := ⟨w.heap.size + 1, 1, none⟩) ?_ (by simp) _; refine Below.setCell (p := ⟨w.heap.size + 1, 0, none⟩) ?_ (by simp) _; refine Below.setCell (p := ⟨w.heap.size + 1 + 1, 4, none⟩) ?_ (by show w.heap.size ≤ w.heap.size + 1 + 1; omega) _; refine Below.setCell (p := ⟨w.heap.size + 1 + 1, 2, none⟩) ?_ (by show w.heap.size ≤ w.heap.size + 1 + 1; omega) _; refine Below.setCell (p := ⟨w.heap.size + 1 + 1, 1, none⟩) ?_ (by show w.heap.size ≤ w.heap.size + 1 + 1; omega) _; refine Below.setCell (p := ⟨w.heap.size + 1 + 1, 3, none⟩) ?_ (by show w.heap.size ≤ w.heap.size + 1 + 1; omega) _; exact q_B

set_option maxHeartbeats 8000000 in
set_option maxRecDepth 100000 in
theorem kept_5 (nm tg : ByteArray) (n dr : Int) (c0 : ByteArray) (c1 c2 c3 c4 c5 : Int) (rn rc : ByteArray) (A : Option Addr) (c : Nat) (l : List S39) (ro : Int) (w : World) :
    Calls Tryd.prog 41 #[.agg (eV 5 nm tg n dr c0 c1 c2 c3 c4 c5 rn rc (.slice A l.length c) ro)] w fun e w' => e = .returned (.agg (eV 5 ⟨#[]⟩ ⟨#[]⟩ n 0 ⟨#[]⟩ 0 0 0 0 0 ⟨#[]⟩ ⟨#[]⟩ (.slice none 0 0) 0)) ∧ Below w.heap.size w w' := by
  go_enter Tryd.func41, Tryd.ntmps41; go_wp2_with fail
  refine bodyPost_ret (results_cell_row rfl _ _ (w.heap.size + 1) 28 (eV 5 ⟨#[]⟩ ⟨#[]⟩ n 0 ⟨#[]⟩ 0 0 0 0 0 ⟨#[]⟩ ⟨#[]⟩ (.slice none 0 0) 0) (0, 0) _ rfl (by
    refine blk_alloc ?_ _; have h1 := blk_new (w.alloc (.cells (eV 5 nm tg n dr c0 c1 c2 c3 c4 c5 rn rc (.slice A l.length c) ro) 28)) (.cells (eV 5 ⟨#[]⟩ ⟨#[]⟩ n 0 ⟨#[]⟩ 0 0 0 0 0 ⟨#[]⟩ ⟨#[]⟩ (.slice none 0 0) 0) 28 (0, 0))
    rwa [World.size_alloc] at h1) Tryd.underlying28 rfl (by kernel_rfl)) rfl ?_
  exact ⟨rfl, below_alloc (below_alloc (below_alloc (Below.refl _ _) _) _) _⟩

set_option maxHeartbeats 8000000 in
set_option maxRecDepth 100000 in
theorem kept_6 (nm tg : ByteArray) (n dr : Int) (c0 : ByteArray) (c1 c2 c3 c4 c5 : Int) (rn rc : ByteArray) (A : Option Addr) (c : Nat) (l : List S39) (ro : Int) (w : World) :
    Calls Tryd.prog 41 #[.agg (eV 6 nm tg n dr c0 c1 c2 c3 c4 c5 rn rc (.slice A l.length c) ro)] w fun e w' => e = .returned (.agg (eV 6 ⟨#[]⟩ ⟨#[]⟩ n 0 ⟨#[]⟩ 0 0 0 0 0 ⟨#[]⟩ ⟨#[]⟩ (.slice none 0 0) 0)) ∧ Below w.heap.size w w' := by
  go_enter Tryd.func41, Tryd.ntmps41; go_wp2_with fail
  refine bodyPost_ret (results_cell_row rfl _ _ (w.heap.size + 1) 28 (eV 6 ⟨#[]⟩ ⟨#[]⟩ n 0 ⟨#[]⟩ 0 0 0 0 0 ⟨#[]⟩ ⟨#[]⟩ (.slice none 0 0) 0) (0, 0) _ rfl (by
    refine blk_alloc ?_ _; have h1 := blk_new (w.alloc (.cells (eV 6 nm tg n dr c0 c1 c2 c3 c4 c5 rn rc (.slice A l.length c) ro) 28)) (.cells (eV 6 ⟨#[]⟩ ⟨#[]⟩ n 0 ⟨#[]⟩ 0 0 0 0 0 ⟨#[]⟩ ⟨#[]⟩ (.slice none 0 0) 0) 28 (0, 0))
    rwa [World.size_alloc] at h1) Tryd.underlying28 rfl (by kernel_rfl)) rfl ?_
  exact ⟨rfl, below_alloc (below_alloc (below_alloc (Below.refl _ _) _) _) _⟩

set_option maxHeartbeats 8000000 in
set_option maxRecDepth 100000 in
theorem kept_7 (nm tg : ByteArray) (n dr : Int) (c0 : ByteArray) (c1 c2 c3 c4 c5 : Int) (rn rc : ByteArray) (A : Option Addr) (c : Nat) (l : List S39) (ro : Int) (w : World) :
    Calls Tryd.prog 41 #[.agg (eV 7 nm tg n dr c0 c1 c2 c3 c4 c5 rn rc (.slice A l.length c) ro)] w fun e w' => e = .returned (.agg (eV 7 ⟨#[]⟩ ⟨#[]⟩ n 0 ⟨#[]⟩ 0 0 0 0 0 ⟨#[]⟩ ⟨#[]⟩ (.slice none 0 0) 0)) ∧ Below w.heap.size w w' := by
  go_enter Tryd.func41, Tryd.ntmps41; go_wp2_with fail
  refine bodyPost_ret (results_cell_row rfl _ _ (w.heap.size + 1) 28 (eV 7 ⟨#[]⟩ ⟨#[]⟩ n 0 ⟨#[]⟩ 0 0 0 0 0 ⟨#[]⟩ ⟨#[]⟩ (.slice none 0 0) 0) (0, 0) _ rfl (by
    refine blk_alloc ?_ _; have h1 := blk_new (w.alloc (.cells (eV 7 nm tg n dr c0 c1 c2 c3 c4 c5 rn rc (.slice A l.length c) ro) 28)) (.cells (eV 7 ⟨#[]⟩ ⟨#[]⟩ n 0 ⟨#[]⟩ 0 0 0 0 0 ⟨#[]⟩ ⟨#[]⟩ (.slice none 0 0) 0) 28 (0, 0))
    rwa [World.size_alloc] at h1) Tryd.underlying28 rfl (by kernel_rfl)) rfl ?_
  exact ⟨rfl, below_alloc (below_alloc (below_alloc (Below.refl _ _) _) _) _⟩

set_option maxHeartbeats 8000000 in
set_option maxRecDepth 100000 in
theorem kept_8 (nm tg : ByteArray) (n dr : Int) (c0 : ByteArray) (c1 c2 c3 c4 c5 : Int) (rn rc : ByteArray) (A : Option Addr) (c : Nat) (l : List S39) (ro : Int) (w : World) :
    Calls Tryd.prog 41 #[.agg (eV 8 nm tg n dr c0 c1 c2 c3 c4 c5 rn rc (.slice A l.length c) ro)] w fun e w' => e = .returned (.agg (eV 8 ⟨#[]⟩ ⟨#[]⟩ n 0 ⟨#[]⟩ 0 0 0 0 0 ⟨#[]⟩ ⟨#[]⟩ (.slice none 0 0) 0)) ∧ Below w.heap.size w w' := by
  go_enter Tryd.func41, Tryd.ntmps41; go_wp2_with fail
  refine bodyPost_ret (results_cell_row rfl _ _ (w.heap.size + 1) 28 (eV 8 ⟨#[]⟩ ⟨#[]⟩ n 0 ⟨#[]⟩ 0 0 0 0 0 ⟨#[]⟩ ⟨#[]⟩ (.slice none 0 0) 0) (0, 0) _ rfl (by
    refine blk_alloc ?_ _; have h1 := blk_new (w.alloc (.cells (eV 8 nm tg n dr c0 c1 c2 c3 c4 c5 rn rc (.slice A l.length c) ro) 28)) (.cells (eV 8 ⟨#[]⟩ ⟨#[]⟩ n 0 ⟨#[]⟩ 0 0 0 0 0 ⟨#[]⟩ ⟨#[]⟩ (.slice none 0 0) 0) 28 (0, 0))
    rwa [World.size_alloc] at h1) Tryd.underlying28 rfl (by kernel_rfl)) rfl ?_
  exact ⟨rfl, below_alloc (below_alloc (below_alloc (Below.refl _ _) _) _) _⟩
end Go.Proofs.YtalpoojepffldaaDoor.Ma
