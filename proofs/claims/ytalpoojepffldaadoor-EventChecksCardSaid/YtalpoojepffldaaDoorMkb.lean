/- Arms of Make: what each kind of event is made of (stamp, lead). -/
import Derived.Test.YtalpoojepffldaaDoorPb
import Derived.Test.YtalpoojepffldaaDoorMka
import Derived.Lib.Hide
namespace Go.Proofs.YtalpoojepffldaaDoor.Ma
open Go.RowKit Go.Proofs.YtalpoojepffldaaDoorW.PrintWords Go.Proofs.YtalpoojepffldaaDoorW.PrintLast Go.Proofs.YtalpoojepffldaaDoorW.PrintMore
set_option linter.unusedVariables false
set_option linter.unusedSimpArgs false
set_option maxHeartbeats 8000000 in
set_option maxRecDepth 100000 in
theorem mk_stamp0 (a0 a1 a2 a3 : Int) (a4 : ByteArray) (a5 a6 a7 a8 a9 : Int) (A5 : Option Addr) (c5 n5 : Nat) (w : World) (hk : wi a0 13 = 9) (hj : wi a3 3 = 0) :
    Calls Tryd.prog 14 #[.int .i64 a0, .int .i64 a1, .int .i64 a2, .int .i64 a3, .agg #[.string a4, .int .i64 a5, .int .i64 a6, .int .i64 a7, .int .i64 a8, .int .i64 a9], .slice A5 n5 c5] w fun e w' => e = .returned (.agg (eV 10 ⟨#[119, 101, 98]⟩ ⟨#[]⟩ 0 0 ⟨#[]⟩ 0 0 0 0 0 ⟨#[]⟩ ⟨#[]⟩ (.slice none 0 0) 0)) ∧ Below w.heap.size w w' := by
  go_enter Tryd.func14, Tryd.ntmps14; go_wp2_with fail; refine (damperlaw3_within.keep a0 13 hk (by decide) _).mono ?_; rintro e w1 ⟨rfl, rfl⟩; go_wp2_with fail; refine (damperlaw3_within.keep a3 3 hj (by decide) _).mono ?_; rintro e w1 ⟨rfl, rfl⟩; go_wp2_with fail
  refine bodyPost_ret (results_cell_row rfl _ _ (w.heap.size + 1) 28 (eV 10 ⟨#[119, 101, 98]⟩ ⟨#[]⟩ 0 0 ⟨#[]⟩ 0 0 0 0 0 ⟨#[]⟩ ⟨#[]⟩ (.slice none 0 0) 0) (0, 0) _ rfl (by
    refine blk_alloc (blk_alloc (blk_alloc ?_ _) _) _; have h1 := blk_new (w.alloc (.cells #[.string a4, .int .i64 a5, .int .i64 a6, .int .i64 a7, .int .i64 a8, .int .i64 a9] 23)) (.cells (eV 10 ⟨#[119, 101, 98]⟩ ⟨#[]⟩ 0 0 ⟨#[]⟩ 0 0 0 0 0 ⟨#[]⟩ ⟨#[]⟩ (.slice none 0 0) 0) 28)
    rwa [World.size_alloc] at h1) Tryd.underlying28 rfl (by kernel_rfl)) rfl ?_
  exact ⟨rfl, below_alloc (below_alloc (below_alloc (below_alloc (below_alloc (Below.refl _ _) _) _) _) _) _⟩

set_option maxHeartbeats 8000000 in
set_option maxRecDepth 100000 in
theorem mk_lead0 (a0 a1 a2 a3 : Int) (a4 : ByteArray) (a5 a6 a7 a8 a9 : Int) (A5 : Option Addr) (c5 n5 : Nat) (w : World) (hk : wi a0 13 = 10) (hj : wi a3 3 = 0) :
    Calls Tryd.prog 14 #[.int .i64 a0, .int .i64 a1, .int .i64 a2, .int .i64 a3, .agg #[.string a4, .int .i64 a5, .int .i64 a6, .int .i64 a7, .int .i64 a8, .int .i64 a9], .slice A5 n5 c5] w fun e w' => e = .returned (.agg (eV 11 ⟨#[102, 114, 111, 110, 116]⟩ ⟨#[]⟩ 0 0 ⟨#[]⟩ 0 0 0 0 0 ⟨#[]⟩ ⟨#[]⟩ (.slice none 0 0) 0)) ∧ Below w.heap.size w w' := by
  go_enter Tryd.func14, Tryd.ntmps14; go_wp2_with fail; refine (damperlaw3_within.keep a0 13 hk (by decide) _).mono ?_; rintro e w1 ⟨rfl, rfl⟩; go_wp2_with fail; refine (damperlaw3_within.keep a3 3 hj (by decide) _).mono ?_; rintro e w1 ⟨rfl, rfl⟩; go_wp2_with fail
  refine bodyPost_ret (results_cell_row rfl _ _ (w.heap.size + 1) 28 (eV 11 ⟨#[102, 114, 111, 110, 116]⟩ ⟨#[]⟩ 0 0 ⟨#[]⟩ 0 0 0 0 0 ⟨#[]⟩ ⟨#[]⟩ (.slice none 0 0) 0) (0, 0) _ rfl (by
    refine blk_alloc (blk_alloc ?_ _) _; have h1 := blk_new (w.alloc (.cells #[.string a4, .int .i64 a5, .int .i64 a6, .int .i64 a7, .int .i64 a8, .int .i64 a9] 23)) (.cells (eV 11 ⟨#[102, 114, 111, 110, 116]⟩ ⟨#[]⟩ 0 0 ⟨#[]⟩ 0 0 0 0 0 ⟨#[]⟩ ⟨#[]⟩ (.slice none 0 0) 0) 28)
    rwa [World.size_alloc] at h1) Tryd.underlying28 rfl (by kernel_rfl)) rfl ?_
  exact ⟨rfl, below_alloc (below_alloc (below_alloc (below_alloc (Below.refl _ _) _) _) _) _⟩

set_option maxHeartbeats 8000000 in
set_option maxRecDepth 100000 in
theorem mk_stamp1 (a0 a1 a2 a3 : Int) (a4 : ByteArray) (a5 a6 a7 a8 a9 : Int) (A5 : Option Addr) (c5 n5 : Nat) (w : World) (hk : wi a0 13 = 9) (hj : wi a3 3 = 1) :
    Calls Tryd.prog 14 #[.int .i64 a0, .int .i64 a1, .int .i64 a2, .int .i64 a3, .agg #[.string a4, .int .i64 a5, .int .i64 a6, .int .i64 a7, .int .i64 a8, .int .i64 a9], .slice A5 n5 c5] w fun e w' => e = .returned (.agg (eV 10 ⟨#[97, 112, 105]⟩ ⟨#[]⟩ 0 0 ⟨#[]⟩ 0 0 0 0 0 ⟨#[]⟩ ⟨#[]⟩ (.slice none 0 0) 0)) ∧ Below w.heap.size w w' := by
  go_enter Tryd.func14, Tryd.ntmps14; go_wp2_with fail; refine (damperlaw3_within.keep a0 13 hk (by decide) _).mono ?_; rintro e w1 ⟨rfl, rfl⟩; go_wp2_with fail; refine (damperlaw3_within.keep a3 3 hj (by decide) _).mono ?_; rintro e w1 ⟨rfl, rfl⟩; go_wp2_with fail
  refine bodyPost_ret (results_cell_row rfl _ _ (w.heap.size + 1) 28 (eV 10 ⟨#[97, 112, 105]⟩ ⟨#[]⟩ 0 0 ⟨#[]⟩ 0 0 0 0 0 ⟨#[]⟩ ⟨#[]⟩ (.slice none 0 0) 0) (0, 0) _ rfl (by
    refine blk_alloc (blk_alloc (blk_alloc ?_ _) _) _; have h1 := blk_new (w.alloc (.cells #[.string a4, .int .i64 a5, .int .i64 a6, .int .i64 a7, .int .i64 a8, .int .i64 a9] 23)) (.cells (eV 10 ⟨#[97, 112, 105]⟩ ⟨#[]⟩ 0 0 ⟨#[]⟩ 0 0 0 0 0 ⟨#[]⟩ ⟨#[]⟩ (.slice none 0 0) 0) 28)
    rwa [World.size_alloc] at h1) Tryd.underlying28 rfl (by kernel_rfl)) rfl ?_
  exact ⟨rfl, below_alloc (below_alloc (below_alloc (below_alloc (below_alloc (Below.refl _ _) _) _) _) _) _⟩

set_option maxHeartbeats 8000000 in
set_option maxRecDepth 100000 in
theorem mk_lead1 (a0 a1 a2 a3 : Int) (a4 : ByteArray) (a5 a6 a7 a8 a9 : Int) (A5 : Option Addr) (c5 n5 : Nat) (w : World) (hk : wi a0 13 = 10) (hj : wi a3 3 = 1) :
    Calls Tryd.prog 14 #[.int .i64 a0, .int .i64 a1, .int .i64 a2, .int .i64 a3, .agg #[.string a4, .int .i64 a5, .int .i64 a6, .int .i64 a7, .int .i64 a8, .int .i64 a9], .slice A5 n5 c5] w fun e w' => e = .returned (.agg (eV 11 ⟨#[98, 97, 99, 107]⟩ ⟨#[]⟩ 0 0 ⟨#[]⟩ 0 0 0 0 0 ⟨#[]⟩ ⟨#[]⟩ (.slice none 0 0) 0)) ∧ Below w.heap.size w w' := by
  go_enter Tryd.func14, Tryd.ntmps14; go_wp2_with fail; refine (damperlaw3_within.keep a0 13 hk (by decide) _).mono ?_; rintro e w1 ⟨rfl, rfl⟩; go_wp2_with fail; refine (damperlaw3_within.keep a3 3 hj (by decide) _).mono ?_; rintro e w1 ⟨rfl, rfl⟩; go_wp2_with fail
  refine bodyPost_ret (results_cell_row rfl _ _ (w.heap.size + 1) 28 (eV 11 ⟨#[98, 97, 99, 107]⟩ ⟨#[]⟩ 0 0 ⟨#[]⟩ 0 0 0 0 0 ⟨#[]⟩ ⟨#[]⟩ (.slice none 0 0) 0) (0, 0) _ rfl (by
    refine blk_alloc (blk_alloc ?_ _) _; have h1 := blk_new (w.alloc (.cells #[.string a4, .int .i64 a5, .int .i64 a6, .int .i64 a7, .int .i64 a8, .int .i64 a9] 23)) (.cells (eV 11 ⟨#[98, 97, 99, 107]⟩ ⟨#[]⟩ 0 0 ⟨#[]⟩ 0 0 0 0 0 ⟨#[]⟩ ⟨#[]⟩ (.slice none 0 0) 0) 28)
    rwa [World.size_alloc] at h1) Tryd.underlying28 rfl (by kernel_rfl)) rfl ?_
  exact ⟨rfl, below_alloc (below_alloc (below_alloc (below_alloc (Below.refl _ _) _) _) _) _⟩

set_option maxHeartbeats 8000000 in
set_option maxRecDepth 100000 in
theorem mk_stamp2 (a0 a1 a2 a3 : Int) (a4 : ByteArray) (a5 a6 a7 a8 a9 : Int) (A5 : Option Addr) (c5 n5 : Nat) (w : World) (hk : wi a0 13 = 9) (hj : wi a3 3 = 2) :
    Calls Tryd.prog 14 #[.int .i64 a0, .int .i64 a1, .int .i64 a2, .int .i64 a3, .agg #[.string a4, .int .i64 a5, .int .i64 a6, .int .i64 a7, .int .i64 a8, .int .i64 a9], .slice A5 n5 c5] w fun e w' => e = .returned (.agg (eV 10 ⟨#[97, 45, 98]⟩ ⟨#[]⟩ 0 0 ⟨#[]⟩ 0 0 0 0 0 ⟨#[]⟩ ⟨#[]⟩ (.slice none 0 0) 0)) ∧ Below w.heap.size w w' := by
  go_enter Tryd.func14, Tryd.ntmps14; go_wp2_with fail; refine (damperlaw3_within.keep a0 13 hk (by decide) _).mono ?_; rintro e w1 ⟨rfl, rfl⟩; go_wp2_with fail; refine (damperlaw3_within.keep a3 3 hj (by decide) _).mono ?_; rintro e w1 ⟨rfl, rfl⟩; go_wp2_with fail
  refine bodyPost_ret (results_cell_row rfl _ _ (w.heap.size + 1) 28 (eV 10 ⟨#[97, 45, 98]⟩ ⟨#[]⟩ 0 0 ⟨#[]⟩ 0 0 0 0 0 ⟨#[]⟩ ⟨#[]⟩ (.slice none 0 0) 0) (0, 0) _ rfl (by
    refine blk_alloc (blk_alloc (blk_alloc ?_ _) _) _; have h1 := blk_new (w.alloc (.cells #[.string a4, .int .i64 a5, .int .i64 a6, .int .i64 a7, .int .i64 a8, .int .i64 a9] 23)) (.cells (eV 10 ⟨#[97, 45, 98]⟩ ⟨#[]⟩ 0 0 ⟨#[]⟩ 0 0 0 0 0 ⟨#[]⟩ ⟨#[]⟩ (.slice none 0 0) 0) 28)
    rwa [World.size_alloc] at h1) Tryd.underlying28 rfl (by kernel_rfl)) rfl ?_
  exact ⟨rfl, below_alloc (below_alloc (below_alloc (below_alloc (below_alloc (Below.refl _ _) _) _) _) _) _⟩

set_option maxHeartbeats 8000000 in
set_option maxRecDepth 100000 in
theorem mk_lead2 (a0 a1 a2 a3 : Int) (a4 : ByteArray) (a5 a6 a7 a8 a9 : Int) (A5 : Option Addr) (c5 n5 : Nat) (w : World) (hk : wi a0 13 = 10) (hj : wi a3 3 = 2) :
    Calls Tryd.prog 14 #[.int .i64 a0, .int .i64 a1, .int .i64 a2, .int .i64 a3, .agg #[.string a4, .int .i64 a5, .int .i64 a6, .int .i64 a7, .int .i64 a8, .int .i64 a9], .slice A5 n5 c5] w fun e w' => e = .returned (.agg (eV 11 ⟨#[114, 45, 49]⟩ ⟨#[]⟩ 0 0 ⟨#[]⟩ 0 0 0 0 0 ⟨#[]⟩ ⟨#[]⟩ (.slice none 0 0) 0)) ∧ Below w.heap.size w w' := by
  go_enter Tryd.func14, Tryd.ntmps14; go_wp2_with fail; refine (damperlaw3_within.keep a0 13 hk (by decide) _).mono ?_; rintro e w1 ⟨rfl, rfl⟩; go_wp2_with fail; refine (damperlaw3_within.keep a3 3 hj (by decide) _).mono ?_; rintro e w1 ⟨rfl, rfl⟩; go_wp2_with fail
  refine bodyPost_ret (results_cell_row rfl _ _ (w.heap.size + 1) 28 (eV 11 ⟨#[114, 45, 49]⟩ ⟨#[]⟩ 0 0 ⟨#[]⟩ 0 0 0 0 0 ⟨#[]⟩ ⟨#[]⟩ (.slice none 0 0) 0) (0, 0) _ rfl (by
    refine blk_alloc (blk_alloc ?_ _) _; have h1 := blk_new (w.alloc (.cells #[.string a4, .int .i64 a5, .int .i64 a6, .int .i64 a7, .int .i64 a8, .int .i64 a9] 23)) (.cells (eV 11 ⟨#[114, 45, 49]⟩ ⟨#[]⟩ 0 0 ⟨#[]⟩ 0 0 0 0 0 ⟨#[]⟩ ⟨#[]⟩ (.slice none 0 0) 0) 28)
    rwa [World.size_alloc] at h1) Tryd.underlying28 rfl (by kernel_rfl)) rfl ?_
  exact ⟨rfl, below_alloc (below_alloc (below_alloc (below_alloc (Below.refl _ _) _) _) _) _⟩
end Go.Proofs.YtalpoojepffldaaDoor.Ma
