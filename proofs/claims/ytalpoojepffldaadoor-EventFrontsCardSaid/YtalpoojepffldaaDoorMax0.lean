-- Written by a program of this session (wip/tools/myprint.py), in the form of the kit's print. Not trusted: Lean checks it.
import Derived.Test.YtalpoojepffldaaDoorProg
import Derived.Below
import Derived.Deep.Draws
import Derived.Deep.AppendLies
import Derived.Maps.AppendAt
import Derived.OwnWalk
import Derived.Laws.BytesArg
import Derived.Laws.MakeOwn
import Derived.Laws.OwnMore
import Derived.Deep.OwnRows
import Derived.Tactics
import Derived.Lib.ConvBytes
import Derived.Laws.Slices
import Derived.WalkKit
import Derived.KernelRfl
import Derived.RowKit3
import Derived.Deep.LoopGhost
import Derived.Deep.QuietTactic
import Derived.BigQuiet
import Derived.WideLaws
import Derived.Deep.DeepCutAuto
import Derived.Deep.CutBlock
import Derived.Deep.RegionHeld3
import Derived.Laws.Rows
import Derived.Lib.AppendStr
import Derived.ArgAppend
import Derived.Laws.IdiomCopy
import Derived.OrdersHeld
import Derived.Laws.BitsLemmas
import Derived.RowKit
import Derived.Test.YtalpoojepffldaaDoorCallp
import Derived.Test.YtalpoojepffldaaDoorLaid
import Derived.Test.YtalpoojepffldaaDoorEv
import Derived.Lib.OthersKept
import Derived.Lib.Hide
import Derived.Outline
import Derived.Test.YtalpoojepffldaaDoorWWords
import Derived.Test.YtalpoojepffldaaDoorWLast
import Derived.Test.YtalpoojepffldaaDoorWTab
import Derived.Test.YtalpoojepffldaaDoorWFour
import Derived.Test.YtalpoojepffldaaDoorWQPut
import Derived.Test.YtalpoojepffldaaDoorWApart
import Derived.Test.YtalpoojepffldaaDoorWArr
import Derived.Test.YtalpoojepffldaaDoorWZeros
import Derived.Test.YtalpoojepffldaaDoorWFoot
import Derived.Test.YtalpoojepffldaaDoorWKept
import Derived.Test.YtalpoojepffldaaDoorWShare
import Derived.Test.YtalpoojepffldaaDoorWN
import Derived.Test.YtalpoojepffldaaDoorWFootNe
import Derived.Test.YtalpoojepffldaaDoorWAt
import Derived.Test.YtalpoojepffldaaDoorWEqStruct
import Derived.Test.YtalpoojepffldaaDoorWRepsOne
import Derived.Test.YtalpoojepffldaaDoorWInv
import Derived.Test.YtalpoojepffldaaDoorWInvWords
import Derived.Test.YtalpoojepffldaaDoorWGuard
import Derived.Test.YtalpoojepffldaaDoorWNEv
import Derived.Test.YtalpoojepffldaaDoorWMore
namespace Go.Proofs.YtalpoojepffldaaDoor.Ma
open Go.RowKit Go.Proofs.YtalpoojepffldaaDoorW.PrintWords Go.Proofs.YtalpoojepffldaaDoorW.PrintLast Go.Proofs.YtalpoojepffldaaDoorW.PrintMore
attribute [local go_sem] max2_int min2_int max_two min_two max_three min_three max_four min_four   -- for this text's walks alone
set_option linter.unusedVariables false
set_option linter.unusedSimpArgs false



def errW : Option Int → Value
  | none => .nilIface
  | some c => .iface 128 (.int .i64 c)
theorem errW_none : errW none = .nilIface := rfl
theorem errW_some (c : Int) : errW (some c) = .iface 128 (.int .i64 c) := rfl

theorem setCell_drewN_ (w : World) (n : Nat) (a : Addr) (v : Value) : (w.drewN n).setCell a v = (w.setCell a v).drewN n := rfl
theorem A0 {p : Prop} (h : p) : Aside0 p := ⟨h⟩
theorem bc {w : World} {g : Nat} {t : TypeId} {cs : Array Value} {v : Value} (h : Aside0 (w.heap[g]? = some (.cells cs t (0, 0)))) (i : Nat) (e : cs[i]? = some v := by rfl) : w.cell? ⟨g, i, none⟩ = some v := (blk_cell h.out i).trans e
theorem cf {W : World} {b g o j : Nat} {u : Value} {r : Option Value} (h : Aside0 (b ≠ g)) (k : W.cell? ⟨b, o, none⟩ = r) : (W.setCell ⟨g, j, none⟩ u).cell? ⟨b, o, none⟩ = r := (cell_far (p := ⟨g, _, none⟩) h.out _).trans k
theorem norm0_ {P : Program} {md : Region.Mode} {ops : Array Oper} {Q : Exit → Act → World → Prop} {S : World → Prop} {ds : List Nat} {fuel : Nat} {l : Array Bool} {a a' : Act} {w : World} (h : wpAnyLast P md ops Q S ds fuel l a' w) (ha : a = a' := by first | (simp only [putAll, Act.put, List.setIfInBounds_toArray, List.set_cons_zero, List.set_cons_succ]; done) | (simp only [putAll, Act.put, List.setIfInBounds_toArray, List.set_cons_zero, List.set_cons_succ]; rfl)) : wpAnyLast P md ops Q S ds fuel l a w := norm_ ha h
theorem pk {w w0 : World} {g : Nat} {o : Obj} (h0 : Aside0 (w0.heap[g]? = some o)) (h : w0.heap[g]? = some o → w.heap[g]? = some o := by (intro h_; (with_reducible repeat (first | refine blk_drewN ?_ _ | refine blk_drew ?_ | refine blk_alloc ?_ _)); exact h_)) : w.heap[g]? = some o := h h0.out
theorem ne_gt {w : World} {g g' : Nat} {o : Obj} (hg : g' = w.heap.size) (h : w.heap[g]? = some o) : g' ≠ g := by rw [hg]; exact Nat.ne_of_gt (blk_lt h)
theorem ne_lt {w : World} {g g' : Nat} {o : Obj} (hg : g' = w.heap.size) (h : w.heap[g]? = some o) : g ≠ g' := by rw [hg]; exact Nat.ne_of_lt (blk_lt h)

theorem info5 : (Tryd.prog.info? 5).map (fun i => (i.zero, i.size, i.bytes)) = some (some (.int .u8 0), 1, 1) := by kernel_rfl
theorem info9 : (Tryd.prog.info? 9).map (fun i => (i.zero, i.size, i.bytes)) = some (some (.string ⟨#[]⟩), 1, 16) := by kernel_rfl
theorem info39 : (Tryd.prog.info? 39).map (fun i => (i.zero, i.size, i.bytes)) = some (some (.agg #[(.string ⟨#[]⟩), (.string ⟨#[]⟩), (.int .i64 0)]), 3, 40) := by kernel_rfl
-- the values' own types
/-! #### struct type 39 -/
structure S39 where
  f0 : ByteArray
  f1 : ByteArray
  f2 : Int
def z39 : S39 := ⟨(⟨#[]⟩ : ByteArray), (⟨#[]⟩ : ByteArray), (0 : Int)⟩
def k39 : Kd S39 := Kd.iso (Kd.pair Kd.string (Kd.pair Kd.string (Kd.int .i64))) (fun x : S39 => (x.f0, x.f1, x.f2))
theorem k39_open {w : World} {x : S39} {cs : List Value} (h : k39.K w x cs) : cs = [.string x.f0, .string x.f1, .int .i64 x.f2] := by
  obtain ⟨_, _, rfl, rfl, ⟨_, _, rfl, rfl, rfl⟩⟩ := h; exact rfl
theorem k39_mkM (w : World) (base : Nat) (ok : Nat → Prop) (x : S39)  : k39.M w base ok x [.string x.f0, .string x.f1, .int .i64 x.f2] := ⟨[.string x.f0], [.string x.f1, .int .i64 x.f2], rfl, rfl, ⟨[.string x.f1], [.int .i64 x.f2], rfl, rfl, rfl⟩⟩
def rd_T39 (xs : List S39) (i : Int) : S39 := xs.getD i.toNat z39
theorem at_T39 {w : World} {A : Option Addr} {n : Nat} {xs : List S39} (h : Kd.C k39 w A n xs) (i : Int) (h0 : 0 ≤ i) (h1 : i < n) : ∃ ad , A = some ad ∧ w.cell? (ad.add (i.toNat * 3)) = some (.string (rd_T39 xs i).f0) ∧ w.cell? ⟨(ad.add (i.toNat * 3)).block, (ad.add (i.toNat * 3)).off + 1, none⟩ = some (.string (rd_T39 xs i).f1) ∧ w.cell? ⟨(ad.add (i.toNat * 3)).block, (ad.add (i.toNat * 3)).off + 2, none⟩ = some (.int .i64 (rd_T39 xs i).f2) := by
  obtain ⟨ad, c, e, _, hK, a0⟩ := Kd.C_get h z39 i h0 h1; have hc : ∀ j u, c[j]? = some u → w.cell? (ad.add (i.toNat * 3 + j)) = some u := a0; obtain rfl := k39_open hK; exact ⟨ad, e, hc 0 _ rfl, by rw [← add_field _ _ 1 (by omega)]; exact hc 1 _ rfl, by rw [← add_field _ _ 2 (by omega)]; exact hc 2 _ rfl⟩

/-! #### struct type 23 -/
structure S23 where
  f0 : ByteArray
  f1 : Int
  f2 : Int
  f3 : Int
  f4 : Int
  f5 : Int
def k23 : Kd S23 := Kd.iso (Kd.pair Kd.string (Kd.pair (Kd.int .i64) (Kd.pair (Kd.int .i64) (Kd.pair (Kd.int .i64) (Kd.pair (Kd.int .i64) (Kd.int .i64)))))) (fun x : S23 => (x.f0, x.f1, x.f2, x.f3, x.f4, x.f5))
theorem k23_open {w : World} {x : S23} {cs : List Value} (h : k23.K w x cs) : cs = [.string x.f0, .int .i64 x.f1, .int .i64 x.f2, .int .i64 x.f3, .int .i64 x.f4, .int .i64 x.f5] := by
  obtain ⟨_, _, rfl, rfl, ⟨_, _, rfl, rfl, ⟨_, _, rfl, rfl, ⟨_, _, rfl, rfl, ⟨_, _, rfl, rfl, rfl⟩⟩⟩⟩⟩ := h; exact rfl
/-! #### struct type 26 -/
/-! #### struct type 28 -/
/-! Words that the walks share. -/
theorem bw0 {P Q : Prop} (h : Aside0 P) (hq : P → Q := by (intro h_; repeat (first | (with_reducible first | exact h_ | apply below_alloc | apply pw_below_drewN | apply below_drew1) | exact h_))) : Q := hq h.out
theorem bw1 {P Q R0 : Prop} (h : Aside0 P) (s0 : Aside0 R0) (hq : R0 → P → Q := by (intro s0_ h_; repeat (first | (with_reducible first | exact h_ | apply below_alloc | apply pw_below_drewN | apply below_drew1 | refine below_set ?_ s0_) | exact h_))) : Q := hq s0.out h.out
theorem bw2 {P Q R0 R1 : Prop} (h : Aside0 P) (s0 : Aside0 R0) (s1 : Aside0 R1) (hq : R0 → R1 → P → Q := by (intro s0_ s1_ h_; repeat (first | (with_reducible first | exact h_ | apply below_alloc | apply pw_below_drewN | apply below_drew1 | refine below_set ?_ s0_ | refine below_set ?_ s1_) | exact h_))) : Q := hq s0.out s1.out h.out
theorem bw3 {P Q R0 R1 R2 : Prop} (h : Aside0 P) (s0 : Aside0 R0) (s1 : Aside0 R1) (s2 : Aside0 R2) (hq : R0 → R1 → R2 → P → Q := by (intro s0_ s1_ s2_ h_; repeat (first | (with_reducible first | exact h_ | apply below_alloc | apply pw_below_drewN | apply below_drew1 | refine below_set ?_ s0_ | refine below_set ?_ s1_ | refine below_set ?_ s2_) | exact h_))) : Q := hq s0.out s1.out s2.out h.out
theorem kr {P Q : Prop} (h : Aside0 P) (hq : P → Q := by (intro h_; (with_reducible repeat (first | apply Kd.R_alloc | apply Kd.R_drewN | apply Kd.R_drew)); exact h_)) : Q := hq h.out
theorem pq {P Q : Prop} (h : Aside0 P) (hq : P → Q := by (intro h_; (with_reducible repeat (first | refine blk_drewN ?_ _ | refine blk_drew ?_ | refine blk_alloc ?_ _)); exact h_)) : Q := hq h.out
theorem au1 {Q : Prop} (h : Q := by ((try simp only [List.map_toArray, List.map_cons, List.map_nil]); first | done | rfl | (simp only [List.length_drop, List.length_take]; rfl))) : Q := h
theorem au2 {Q : Prop} (h : Q := by (first | decide | assumption | exact wi_ne (by assumption) | exact wi_ne' (by assumption) | omega)) : Q := h
theorem au3 {Q : Prop} (h : Q := by (first | rfl | (simp [errW_none, errW_some] <;> rfl) | (simp [*, errW_none, errW_some] <;> rfl))) : Q := h
theorem au4 {Q : Prop} (h : Q := by (first | rfl | (simp; done) | (simp [*]; done))) : Q := h
theorem au5 {Q : Prop} (h : Q := by (first | omega | exact Nat.le_refl _)) : Q := h
theorem au6 {Q : Prop} (h : Q := by (first | (with_reducible assumption) | assumption)) : Q := h
end Go.Proofs.YtalpoojepffldaaDoor.Ma
