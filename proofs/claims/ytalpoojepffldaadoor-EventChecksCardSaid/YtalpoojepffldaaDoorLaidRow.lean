/- What a row's list of laid variables gives: the fact of a world that the walks take; and a world in which the list is met. -/
import Derived.Test.YtalpoojepffldaaDoorRows
import Derived.Test.YtalpoojepffldaaDoorLaid
import Derived.Deep.DeepWitnessRowRef
import Derived.Lib.LaidIn
import Derived.Lib.LaidTab
import Derived.Stop.LaidErr
import Derived.ProofKit
namespace Go.Proofs.YtalpoojepffldaaDoor
open Go Go.ChangeShapes Go.WideShapes Go.ChangeAt Go.RowKit
def laidAll : List (String × DataW Unit) := [("math/bits.deBruijn32tab", Rows.laid_math_bits_deBruijn32tab), ("math/bits.deBruijn64tab", Rows.laid_math_bits_deBruijn64tab), ("internal/strconv.uint64pow10", Rows.laid_internal_strconv_uint64pow10), ("strconv.ErrRange", Rows.laid_strconv_ErrRange), ("strconv.ErrSyntax", Rows.laid_strconv_ErrSyntax)]
theorem star : "*" ++ "errors.errorString" = "*errors.errorString" := by decide
theorem rowE (u : TypeId) (h : Tryd.prog.typeName? 3 u = some "*errors.errorString") : u = 144 :=
  typeName_ptr_named (nm := "errors.errorString") (by rw [star]; kernel_rfl) (by kernel_rfl) (by decide) u (by rw [star]; exact h)
theorem cells_pow : Tryd.prog.cellsOf 152 = 20 := by kernel_rfl
theorem cells_u64 : Tryd.prog.cellsOf 134 = 1 := by kernel_rfl
theorem laidW_of {W : World} (hL : laidMet Tryd.prog laidAll W) : LaidW W := by
  obtain ⟨a1, t1, hv1, _⟩ := laid_sentinel (g := 2) hL.tail.tail.tail (by kernel_rfl) (by kernel_rfl) Tryd.underlying116 rowE Tryd.underlying144 Tryd.underlying146 rfl rfl Tryd.underlying9 (by kernel_rfl) (by kernel_rfl)
  obtain ⟨a0, t0, hv0, _⟩ := laid_sentinel (g := 1) hL.tail.tail.tail.tail (by kernel_rfl) (by kernel_rfl) Tryd.underlying116 rowE Tryd.underlying144 Tryd.underlying146 rfl rfl Tryd.underlying9 (by kernel_rfl) (by kernel_rfl)
  exact ⟨Lib.tabIs_of_head gPow (by kernel_rfl) Tryd.underlying152 Tryd.underlying134 cells_u64 cells_pow hL.tail.tail, ⟨_, _, hv0⟩, ⟨_, _, hv1⟩⟩
noncomputable def laidWorld (os : Os) : World :=
  let N := (World.settled Tryd.prog os).heap.size
  let w0 := World.holding Tryd.prog os ⟨#[.cells #[.string ⟨#[118, 97, 108, 117, 101, 32, 111, 117, 116, 32, 111, 102, 32, 114, 97, 110, 103, 101]⟩] 146, .cells #[.string ⟨#[105, 110, 118, 97, 108, 105, 100, 32, 115, 121, 110, 116, 97, 120]⟩] 146], #[], []⟩
  let put (h : Array Obj) (g : Nat) (cs : Array Value) : Array Obj := h.modify g fun
    | .cells _ t frozen => .cells cs t frozen
    | o => o
  let h0 := put (put w0.heap 1 #[.iface 144 (.pointer (some ⟨N + 1, 0, none⟩))]) 2 #[.iface 144 (.pointer (some ⟨N, 0, none⟩))]
  let h1 := put (put (put h0 3 (Lib.pow10Tab.map (Value.int .u64)).toArray) 4 ([0, 1, 28, 2, 29, 14, 24, 3, 30, 22, 20, 15, 25, 17, 4, 8, 31, 27, 13, 23, 21, 19, 16, 7, 26, 12, 18, 6, 11, 5, 10, 9].map (Value.int .u8)).toArray) 5 ([0, 1, 56, 2, 57, 49, 28, 3, 61, 58, 42, 50, 38, 29, 17, 4, 62, 47, 59, 36, 45, 43, 51, 22, 53, 39, 33, 30, 24, 18, 12, 5, 63, 55, 48, 27, 60, 41, 37, 16, 46, 35, 44, 21, 52, 32, 23, 11, 54, 26, 40, 15, 34, 20, 31, 10, 25, 14, 19, 9, 13, 8, 7, 6].map (Value.int .u8)).toArray
  { w0 with heap := h1 }
noncomputable abbrev N0 : Nat := (World.settled Tryd.prog default).heap.size
set_option maxRecDepth 1000000 in
theorem laid_in (os : Os) (args : Array Value) : LaidIn Tryd.prog ((laidWorld os).forCall (fun _ _ => 0) ⟨#[], args, []⟩).memory laidAll [4, 5, 3, 2, N0 + 0, 1, N0 + 1] :=
  LaidIn.of_run [4, 5, 3, 2, N0 + 0, 1, N0 + 1] 10 (by kernel_rfl) (by kernel_rfl) (by kernel_rfl) (by kernel_rfl)
theorem laid_met (os : Os) (args : Array Value) : laidMet Tryd.prog laidAll ((laidWorld os).forCall (fun _ _ => 0) ⟨#[], args, []⟩).memory := (laid_in os args).met
end Go.Proofs.YtalpoojepffldaaDoor
