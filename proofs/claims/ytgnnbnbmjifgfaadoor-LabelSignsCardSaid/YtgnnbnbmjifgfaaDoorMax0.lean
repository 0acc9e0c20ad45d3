-- Written by a program of this session (wip/tools/myprint.py), in the form of the kit's print. Not trusted: Lean checks it.
import Derived.Test.YtgnnbnbmjifgfaaDoorProg
import Derived.Below
import Derived.Deep.Draws
import Derived.Deep.AppendLies
import Derived.Maps.AppendAt
import Derived.OwnWalk
import Derived.Laws.BytesArg
import Derived.Laws.MakeOwn
import Derived.Laws.OwnMore
import Derived.Deep.OwnRows
import Derived.Tactics
import Derived.Lib.ConvBytes
import Derived.Laws.Slices
import Derived.WalkKit
import Derived.KernelRfl
import Derived.RowKit3
import Derived.Deep.LoopGhost
import Derived.Deep.QuietTactic
import Derived.BigQuiet
import Derived.WideLaws
import Derived.Deep.DeepCutAuto
import Derived.Deep.CutBlock
import Derived.Deep.RegionHeld3
import Derived.Laws.Rows
import Derived.Lib.AppendStr
import Derived.ArgAppend
import Derived.Laws.IdiomCopy
import Derived.OrdersHeld
import Derived.Laws.BitsLemmas
import Derived.RowKit
import Derived.Test.YtgnnbnbmjifgfaaDoorLaid
import Derived.Lib.OthersKept
import Derived.Test.YtgnnbnbmjifgfaaDoorWWords
import Derived.Test.YtgnnbnbmjifgfaaDoorWLast
import Derived.Test.YtgnnbnbmjifgfaaDoorWTab
import Derived.Test.YtgnnbnbmjifgfaaDoorWFour
import Derived.Test.YtgnnbnbmjifgfaaDoorWQPut
import Derived.Test.YtgnnbnbmjifgfaaDoorWApart
import Derived.Test.YtgnnbnbmjifgfaaDoorWArr
import Derived.Test.YtgnnbnbmjifgfaaDoorWZeros
import Derived.Test.YtgnnbnbmjifgfaaDoorWFoot
import Derived.Test.YtgnnbnbmjifgfaaDoorWKept
import Derived.Test.YtgnnbnbmjifgfaaDoorWShare
import Derived.Test.YtgnnbnbmjifgfaaDoorWN
import Derived.Test.YtgnnbnbmjifgfaaDoorWFootNe
import Derived.Test.YtgnnbnbmjifgfaaDoorWAt
import Derived.Test.YtgnnbnbmjifgfaaDoorWEqStruct
import Derived.Test.YtgnnbnbmjifgfaaDoorWRepsOne
import Derived.Test.YtgnnbnbmjifgfaaDoorWInv
import Derived.Test.YtgnnbnbmjifgfaaDoorWInvWords
import Derived.Test.YtgnnbnbmjifgfaaDoorWGuard
import Derived.Test.YtgnnbnbmjifgfaaDoorWNEv
import Derived.Test.YtgnnbnbmjifgfaaDoorWMore
namespace Go.Proofs.YtgnnbnbmjifgfaaDoor.Ma
open Go.RowKit Go.Proofs.YtgnnbnbmjifgfaaDoorW.PrintWords Go.Proofs.YtgnnbnbmjifgfaaDoorW.PrintLast Go.Proofs.YtgnnbnbmjifgfaaDoorW.PrintMore
attribute [local go_sem] max2_int min2_int max_two min_two max_three min_three max_four min_four   -- for this text's walks alone
set_option linter.unusedVariables false
set_option linter.unusedSimpArgs false



def errW : Option Int → Value
  | none => .nilIface
  | some c => .iface 55 (.int .i64 c)
theorem errW_none : errW none = .nilIface := rfl
theorem errW_some (c : Int) : errW (some c) = .iface 55 (.int .i64 c) := rfl

theorem ie_t {l : List UInt8} {B : Bool} (h : ((l != ([] : List UInt8)) == B) = true) : (l.isEmpty = !B) = True := by cases l <;> cases B <;> first | rfl | simp_all
theorem ie_f {l : List UInt8} {B : Bool} (h : ((l != ([] : List UInt8)) == B) = false) : (l.isEmpty = !B) = False := by cases l <;> cases B <;> first | rfl | simp_all
theorem ie0_t {l : List UInt8} (h : ((l != ([] : List UInt8)) == false) = true) : (l = ([] : List UInt8)) = True := by cases l <;> first | rfl | simp_all
theorem ie0_f {l : List UInt8} (h : ((l != ([] : List UInt8)) == false) = false) : (l = ([] : List UInt8)) = False := by cases l <;> first | rfl | simp_all
theorem iz0_t {l : List UInt8} (h : ((l != ([] : List UInt8)) == false) = true) : l.isEmpty = true := by cases l <;> first | rfl | simp_all
theorem iz0_f {l : List UInt8} (h : ((l != ([] : List UInt8)) == false) = false) : l.isEmpty = false := by cases l <;> first | rfl | simp_all
theorem ib_t {l : List UInt8} {B : Bool} (h : (B != (l != ([] : List UInt8))) = true) : (B = !l.isEmpty) = False := by cases l <;> cases B <;> first | rfl | simp_all
theorem ib_f {l : List UInt8} {B : Bool} (h : (B != (l != ([] : List UInt8))) = false) : (B = !l.isEmpty) = True := by cases l <;> cases B <;> first | rfl | simp_all
theorem setCell_drewN_ (w : World) (n : Nat) (a : Addr) (v : Value) : (w.drewN n).setCell a v = (w.setCell a v).drewN n := rfl
theorem A0 {p : Prop} (h : p) : Aside0 p := ⟨h⟩
theorem bc {w : World} {g : Nat} {t : TypeId} {cs : Array Value} {v : Value} (h : Aside0 (w.heap[g]? = some (.cells cs t (0, 0)))) (i : Nat) (e : cs[i]? = some v := by rfl) : w.cell? ⟨g, i, none⟩ = some v := (blk_cell h.out i).trans e
theorem cf {W : World} {b g o j : Nat} {u : Value} {r : Option Value} (h : Aside0 (b ≠ g)) (k : W.cell? ⟨b, o, none⟩ = r) : (W.setCell ⟨g, j, none⟩ u).cell? ⟨b, o, none⟩ = r := (cell_far (p := ⟨g, _, none⟩) h.out _).trans k
theorem norm0_ {P : Program} {md : Region.Mode} {ops : Array Oper} {Q : Exit → Act → World → Prop} {S : World → Prop} {ds : List Nat} {fuel : Nat} {l : Array Bool} {a a' : Act} {w : World} (h : wpAnyLast P md ops Q S ds fuel l a' w) (ha : a = a' := by first | (simp only [putAll, Act.put, List.setIfInBounds_toArray, List.set_cons_zero, List.set_cons_succ]; done) | (simp only [putAll, Act.put, List.setIfInBounds_toArray, List.set_cons_zero, List.set_cons_succ]; rfl)) : wpAnyLast P md ops Q S ds fuel l a w := norm_ ha h
theorem pk {w w0 : World} {g : Nat} {o : Obj} (h0 : Aside0 (w0.heap[g]? = some o)) (h : w0.heap[g]? = some o → w.heap[g]? = some o := by (intro h_; (with_reducible repeat (first | refine blk_drewN ?_ _ | refine blk_drew ?_ | refine blk_alloc ?_ _)); exact h_)) : w.heap[g]? = some o := h h0.out
theorem ne_gt {w : World} {g g' : Nat} {o : Obj} (hg : g' = w.heap.size) (h : w.heap[g]? = some o) : g' ≠ g := by rw [hg]; exact Nat.ne_of_gt (blk_lt h)
theorem ne_lt {w : World} {g g' : Nat} {o : Obj} (hg : g' = w.heap.size) (h : w.heap[g]? = some o) : g ≠ g' := by rw [hg]; exact Nat.ne_of_lt (blk_lt h)

theorem info3 : (Tryd.prog.info? 3).map (fun i => (i.zero, i.size, i.bytes)) = some (some (.int .i64 0), 1, 8) := by kernel_rfl
theorem info4 : (Tryd.prog.info? 4).map (fun i => (i.zero, i.size, i.bytes)) = some (some (.bool false), 1, 1) := by kernel_rfl
theorem info5 : (Tryd.prog.info? 5).map (fun i => (i.zero, i.size, i.bytes)) = some (some (.int .u8 0), 1, 1) := by kernel_rfl
theorem info9 : (Tryd.prog.info? 9).map (fun i => (i.zero, i.size, i.bytes)) = some (some (.string ⟨#[]⟩), 1, 16) := by kernel_rfl
-- the values' own types

end Go.Proofs.YtgnnbnbmjifgfaaDoor.Ma
