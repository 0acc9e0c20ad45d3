/- The document's Check, kind by kind (Ckc). -/
import Derived.Test.YtalpoojepffldaaDoorMax0
import Derived.Test.YtalpoojepffldaaDoorCk
import Derived.Lib.Hide
namespace Go.Proofs.YtalpoojepffldaaDoor.Ma
open Go.RowKit Go.Proofs.YtalpoojepffldaaDoorW.PrintWords Go.Proofs.YtalpoojepffldaaDoorW.PrintLast Go.Proofs.YtalpoojepffldaaDoorW.PrintMore
set_option linter.unusedVariables false
set_option linter.unusedSimpArgs false
open Ck
set_option maxHeartbeats 8000000 in
set_option maxRecDepth 100000 in
theorem kept_9 (nm tg : ByteArray) (n dr : Int) (c0 : ByteArray) (c1 c2 c3 c4 c5 : Int) (rn rc : ByteArray) (A : Option Addr) (c : Nat) (l : List S39) (ro : Int) (w : World) :
    Calls Tryd.prog 41 #[.agg (eV 9 nm tg n dr c0 c1 c2 c3 c4 c5 rn rc (.slice A l.length c) ro)] w fun e w' => e = .returned (.agg (eV 9 ⟨#[]⟩ ⟨#[]⟩ 0 0 ⟨#[]⟩ 0 0 0 0 0 ⟨#[]⟩ ⟨#[]⟩ (.slice none 0 0) 0)) ∧ Below w.heap.size w w' := by
  go_enter Tryd.func41, Tryd.ntmps41; go_wp2_with fail
  refine bodyPost_ret (results_cell_row rfl _ _ (w.heap.size + 1) 28 (eV 9 ⟨#[]⟩ ⟨#[]⟩ 0 0 ⟨#[]⟩ 0 0 0 0 0 ⟨#[]⟩ ⟨#[]⟩ (.slice none 0 0) 0) (0, 0) _ rfl (by
    refine blk_alloc ?_ _; have h1 := blk_new (w.alloc (.cells (eV 9 nm tg n dr c0 c1 c2 c3 c4 c5 rn rc (.slice A l.length c) ro) 28)) (.cells (eV 9 ⟨#[]⟩ ⟨#[]⟩ 0 0 ⟨#[]⟩ 0 0 0 0 0 ⟨#[]⟩ ⟨#[]⟩ (.slice none 0 0) 0) 28 (0, 0))
    rwa [World.size_alloc] at h1) Tryd.underlying28 rfl (by kernel_rfl)) rfl ?_
  exact ⟨rfl, below_alloc (below_alloc (below_alloc (Below.refl _ _) _) _) _⟩

set_option maxHeartbeats 8000000 in
set_option maxRecDepth 100000 in
theorem kept_10 (nm tg : ByteArray) (n dr : Int) (c0 : ByteArray) (c1 c2 c3 c4 c5 : Int) (rn rc : ByteArray) (A : Option Addr) (c : Nat) (l : List S39) (ro : Int) (w : World) :
    Calls Tryd.prog 41 #[.agg (eV 10 nm tg n dr c0 c1 c2 c3 c4 c5 rn rc (.slice A l.length c) ro)] w fun e w' => e = .returned (.agg (eV 10 nm ⟨#[]⟩ 0 0 ⟨#[]⟩ 0 0 0 0 0 ⟨#[]⟩ ⟨#[]⟩ (.slice none 0 0) 0)) ∧ Below w.heap.size w w' := by
  go_enter Tryd.func41, Tryd.ntmps41; go_wp2_with fail
  refine bodyPost_ret (results_cell_row rfl _ _ (w.heap.size + 1) 28 (eV 10 nm ⟨#[]⟩ 0 0 ⟨#[]⟩ 0 0 0 0 0 ⟨#[]⟩ ⟨#[]⟩ (.slice none 0 0) 0) (0, 0) _ rfl (by
    refine blk_alloc ?_ _; have h1 := blk_new (w.alloc (.cells (eV 10 nm tg n dr c0 c1 c2 c3 c4 c5 rn rc (.slice A l.length c) ro) 28)) (.cells (eV 10 nm ⟨#[]⟩ 0 0 ⟨#[]⟩ 0 0 0 0 0 ⟨#[]⟩ ⟨#[]⟩ (.slice none 0 0) 0) 28 (0, 0))
    rwa [World.size_alloc] at h1) Tryd.underlying28 rfl (by kernel_rfl)) rfl ?_
  exact ⟨rfl, below_alloc (below_alloc (below_alloc (Below.refl _ _) _) _) _⟩

set_option maxHeartbeats 8000000 in
set_option maxRecDepth 100000 in
theorem kept_11 (nm tg : ByteArray) (n dr : Int) (c0 : ByteArray) (c1 c2 c3 c4 c5 : Int) (rn rc : ByteArray) (A : Option Addr) (c : Nat) (l : List S39) (ro : Int) (w : World) :
    Calls Tryd.prog 41 #[.agg (eV 11 nm tg n dr c0 c1 c2 c3 c4 c5 rn rc (.slice A l.length c) ro)] w fun e w' => e = .returned (.agg (eV 11 nm ⟨#[]⟩ 0 0 ⟨#[]⟩ 0 0 0 0 0 ⟨#[]⟩ ⟨#[]⟩ (.slice none 0 0) 0)) ∧ Below w.heap.size w w' := by
  go_enter Tryd.func41, Tryd.ntmps41; go_wp2_with fail
  refine bodyPost_ret (results_cell_row rfl _ _ (w.heap.size + 1) 28 (eV 11 nm ⟨#[]⟩ 0 0 ⟨#[]⟩ 0 0 0 0 0 ⟨#[]⟩ ⟨#[]⟩ (.slice none 0 0) 0) (0, 0) _ rfl (by
    refine blk_alloc ?_ _; have h1 := blk_new (w.alloc (.cells (eV 11 nm tg n dr c0 c1 c2 c3 c4 c5 rn rc (.slice A l.length c) ro) 28)) (.cells (eV 11 nm ⟨#[]⟩ 0 0 ⟨#[]⟩ 0 0 0 0 0 ⟨#[]⟩ ⟨#[]⟩ (.slice none 0 0) 0) 28 (0, 0))
    rwa [World.size_alloc] at h1) Tryd.underlying28 rfl (by kernel_rfl)) rfl ?_
  exact ⟨rfl, below_alloc (below_alloc (below_alloc (Below.refl _ _) _) _) _⟩

set_option maxHeartbeats 8000000 in
set_option maxRecDepth 100000 in
theorem kept_12 (nm tg : ByteArray) (n dr : Int) (c0 : ByteArray) (c1 c2 c3 c4 c5 : Int) (rn rc : ByteArray) (A : Option Addr) (c : Nat) (l : List S39) (ro : Int) (w : World) :
    Calls Tryd.prog 41 #[.agg (eV 12 nm tg n dr c0 c1 c2 c3 c4 c5 rn rc (.slice A l.length c) ro)] w fun e w' => e = .returned (.agg (eV 12 nm ⟨#[]⟩ 0 0 ⟨#[]⟩ 0 0 0 0 0 ⟨#[]⟩ ⟨#[]⟩ (.slice none 0 0) 0)) ∧ Below w.heap.size w w' := by
  go_enter Tryd.func41, Tryd.ntmps41; go_wp2_with fail
  refine bodyPost_ret (results_cell_row rfl _ _ (w.heap.size + 1) 28 (eV 12 nm ⟨#[]⟩ 0 0 ⟨#[]⟩ 0 0 0 0 0 ⟨#[]⟩ ⟨#[]⟩ (.slice none 0 0) 0) (0, 0) _ rfl (by
    refine blk_alloc ?_ _; have h1 := blk_new (w.alloc (.cells (eV 12 nm tg n dr c0 c1 c2 c3 c4 c5 rn rc (.slice A l.length c) ro) 28)) (.cells (eV 12 nm ⟨#[]⟩ 0 0 ⟨#[]⟩ 0 0 0 0 0 ⟨#[]⟩ ⟨#[]⟩ (.slice none 0 0) 0) 28 (0, 0))
    rwa [World.size_alloc] at h1) Tryd.underlying28 rfl (by kernel_rfl)) rfl ?_
  exact ⟨rfl, below_alloc (below_alloc (below_alloc (Below.refl _ _) _) _) _⟩

set_option maxHeartbeats 8000000 in
set_option maxRecDepth 100000 in
theorem kept_13 (nm tg : ByteArray) (n dr : Int) (c0 : ByteArray) (c1 c2 c3 c4 c5 : Int) (rn rc : ByteArray) (A : Option Addr) (c : Nat) (l : List S39) (ro : Int) (w : World) :
    Calls Tryd.prog 41 #[.agg (eV 13 nm tg n dr c0 c1 c2 c3 c4 c5 rn rc (.slice A l.length c) ro)] w fun e w' => e = .returned (.agg (eV 13 nm ⟨#[]⟩ 0 0 ⟨#[]⟩ 0 0 0 0 0 ⟨#[]⟩ ⟨#[]⟩ (.slice none 0 0) 0)) ∧ Below w.heap.size w w' := by
  go_enter Tryd.func41, Tryd.ntmps41; go_wp2_with fail
  refine bodyPost_ret (results_cell_row rfl _ _ (w.heap.size + 1) 28 (eV 13 nm ⟨#[]⟩ 0 0 ⟨#[]⟩ 0 0 0 0 0 ⟨#[]⟩ ⟨#[]⟩ (.slice none 0 0) 0) (0, 0) _ rfl (by
    refine blk_alloc ?_ _; have h1 := blk_new (w.alloc (.cells (eV 13 nm tg n dr c0 c1 c2 c3 c4 c5 rn rc (.slice A l.length c) ro) 28)) (.cells (eV 13 nm ⟨#[]⟩ 0 0 ⟨#[]⟩ 0 0 0 0 0 ⟨#[]⟩ ⟨#[]⟩ (.slice none 0 0) 0) 28 (0, 0))
    rwa [World.size_alloc] at h1) Tryd.underlying28 rfl (by kernel_rfl)) rfl ?_
  exact ⟨rfl, below_alloc (below_alloc (below_alloc (Below.refl _ _) _) _) _⟩
end Go.Proofs.YtalpoojepffldaaDoor.Ma
