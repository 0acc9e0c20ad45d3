/- What the laid package-level variables hold, as a fact of a world: it stays behind whatever leaves the blocks that were there as they were. -/
import Derived.Test.YtalpoojepffldaaDoorShelf
import Derived.Test.YtalpoojepffldaaDoorRows
import Derived.WalkKit
import Derived.Below
import Derived.WalkSmall
import Derived.Lib.LaidTab
import Derived.Lib.AppendIntMem
import Derived.Lib.SmallJoins
namespace Go.Proofs.YtalpoojepffldaaDoor
open Go Go.RowKit Go.Lib
theorem gPow : Tryd.prog.globalNamed "internal/strconv.uint64pow10" = some 3 := by kernel_rfl
theorem gSyn : Tryd.prog.globalNamed "strconv.ErrSyntax" = some 1 := by kernel_rfl
theorem gRan : Tryd.prog.globalNamed "strconv.ErrRange" = some 2 := by kernel_rfl

/-- The three variables that strconv reads on the way. -/
def LaidW (w : World) : Prop :=
  Lib.TabIs Tryd.prog w "internal/strconv.uint64pow10" .u64 Lib.pow10Tab ∧
  (∃ t p, w.var? Tryd.prog "strconv.ErrSyntax" = some #[.iface t p]) ∧
  (∃ t p, w.var? Tryd.prog "strconv.ErrRange" = some #[.iface t p])

theorem var_lt {w : World} {n : String} {g : Nat} {cs : Array Value} (hg : Tryd.prog.globalNamed n = some g) (h : w.var? Tryd.prog n = some cs) : g < w.heap.size := by
  unfold World.var? at h
  rw [hg] at h
  simp only [Option.bind_some] at h
  by_cases hlt : g < w.heap.size
  · exact hlt
  · rw [Array.getElem?_eq_none (by omega)] at h
    cases h

theorem LaidW.below {w w' : World} (h : LaidW w) (hb : Below w.heap.size w w') : LaidW w' := by
  obtain ⟨h1, ⟨t2, p2, h2⟩, ⟨t3, p3, h3⟩⟩ := h
  exact ⟨var?_below hb gPow (var_lt gPow h1) h1, ⟨t2, p2, var?_below hb gSyn (var_lt gSyn h2) h2⟩, ⟨t3, p3, var?_below hb gRan (var_lt gRan h3) h3⟩⟩
theorem LaidW.drewN {w : World} (h : LaidW w) (n : Nat) : LaidW (w.drewN n) := h.below ⟨rfl, rfl, rfl, Nat.le_refl _, fun _ _ => rfl⟩
theorem LaidW.drew {w : World} (h : LaidW w) : LaidW w.drew := h.below (Below.refl _ w).drew
end Go.Proofs.YtalpoojepffldaaDoor
