-- Written by a program of this session (wip/tools/myprint.py), in the form of the kit's print. Not trusted: Lean checks it.
import Derived.Test.YtalpoojepffldaaDoorProg
import Derived.Below
import Derived.Deep.Draws
import Derived.Deep.AppendLies
import Derived.Maps.AppendAt
import Derived.OwnWalk
import Derived.Laws.BytesArg
import Derived.Laws.MakeOwn
import Derived.Laws.OwnMore
import Derived.Deep.OwnRows
import Derived.Tactics
import Derived.Lib.ConvBytes
import Derived.Laws.Slices
import Derived.WalkKit
import Derived.KernelRfl
import Derived.RowKit3
import Derived.Deep.LoopGhost
import Derived.Deep.QuietTactic
import Derived.BigQuiet
import Derived.WideLaws
import Derived.Deep.DeepCutAuto
import Derived.Deep.CutBlock
import Derived.Deep.RegionHeld3
import Derived.Laws.Rows
import Derived.Lib.AppendStr
import Derived.ArgAppend
import Derived.Laws.IdiomCopy
import Derived.OrdersHeld
import Derived.Laws.BitsLemmas
import Derived.RowKit
import Derived.Test.YtalpoojepffldaaDoorCallp
import Derived.Test.YtalpoojepffldaaDoorLaid
import Derived.Test.YtalpoojepffldaaDoorEv
import Derived.Lib.OthersKept
import Derived.Lib.Hide
import Derived.Outline
import Derived.Test.YtalpoojepffldaaDoorWWords
import Derived.Test.YtalpoojepffldaaDoorWLast
import Derived.Test.YtalpoojepffldaaDoorWTab
import Derived.Test.YtalpoojepffldaaDoorWFour
import Derived.Test.YtalpoojepffldaaDoorWQPut
import Derived.Test.YtalpoojepffldaaDoorWApart
import Derived.Test.YtalpoojepffldaaDoorWArr
import Derived.Test.YtalpoojepffldaaDoorWZeros
import Derived.Test.YtalpoojepffldaaDoorWFoot
import Derived.Test.YtalpoojepffldaaDoorWKept
import Derived.Test.YtalpoojepffldaaDoorWShare
import Derived.Test.YtalpoojepffldaaDoorWN
import Derived.Test.YtalpoojepffldaaDoorWFootNe
import Derived.Test.YtalpoojepffldaaDoorWAt
import Derived.Test.YtalpoojepffldaaDoorWEqStruct
import Derived.Test.YtalpoojepffldaaDoorWRepsOne
import Derived.Test.YtalpoojepffldaaDoorWInv
import Derived.Test.YtalpoojepffldaaDoorWInvWords
import Derived.Test.YtalpoojepffldaaDoorWGuard
import Derived.Test.YtalpoojepffldaaDoorWNEv
import Derived.Test.YtalpoojepffldaaDoorWMore
namespace Go.Proofs.YtalpoojepffldaaDoor.Ma
open Go.RowKit Go.Proofs.YtalpoojepffldaaDoorW.PrintWords Go.Proofs.YtalpoojepffldaaDoorW.PrintLast Go.Proofs.YtalpoojepffldaaDoorW.PrintMore
attribute [local go_sem] max2_int min2_int max_two min_two max_three min_three max_four min_four   -- for this text's walks alone
set_option linter.unusedVariables false
set_option linter.unusedSimpArgs false



def errW : Option Int → Value
  | none => .nilIface
  | some c => .iface 128 (.int .i64 c)
theorem errW_none : errW none = .nilIface := rfl
theorem errW_some (c : Int) : errW (some c) = .iface 128 (.int .i64 c) := rfl

theorem setCell_drewN_ (w : World) (n : Nat) (a : Addr) (v : Value) : (w.drewN n).setCell a v = (w.setCell a v).drewN n := rfl
theorem A0 {p : Prop} (h : p) : Aside0 p := ⟨h⟩
theorem bc {w : World} {g : Nat} {t : TypeId} {cs : Array Value} {v : Value} (h : Aside0 (w.heap[g]? = some (.cells cs t (0, 0)))) (i : Nat) (e : cs[i]? = some v := by rfl) : w.cell? ⟨g, i, none⟩ = some v := (blk_cell h.out i).trans e
theorem cf {W : World} {b g o j : Nat} {u : Value} {r : Option Value} (h : Aside0 (b ≠ g)) (k : W.cell? ⟨b, o, none⟩ = r) : (W.setCell ⟨g, j, none⟩ u).cell? ⟨b, o, none⟩ = r := (cell_far (p := ⟨g, _, none⟩) h.out _).trans k
theorem norm0_ {P : Program} {md : Region.Mode} {ops : Array Oper} {Q : Exit → Act → World → Prop} {S : World → Prop} {ds : List Nat} {fuel : Nat} {l : Array Bool} {a a' : Act} {w : World} (h : wpAnyLast P md ops Q S ds fuel l a' w) (ha : a = a' := by first | (simp only [putAll, Act.put, List.setIfInBounds_toArray, List.set_cons_zero, List.set_cons_succ]; done) | (simp only [putAll, Act.put, List.setIfInBounds_toArray, List.set_cons_zero, List.set_cons_succ]; rfl)) : wpAnyLast P md ops Q S ds fuel l a w := norm_ ha h
theorem pk {w w0 : World} {g : Nat} {o : Obj} (h0 : Aside0 (w0.heap[g]? = some o)) (h : w0.heap[g]? = some o → w.heap[g]? = some o := by (intro h_; (with_reducible repeat (first | refine blk_drewN ?_ _ | refine blk_drew ?_ | refine blk_alloc ?_ _)); exact h_)) : w.heap[g]? = some o := h h0.out
theorem ne_gt {w : World} {g g' : Nat} {o : Obj} (hg : g' = w.heap.size) (h : w.heap[g]? = some o) : g' ≠ g := by rw [hg]; exact Nat.ne_of_gt (blk_lt h)
theorem ne_lt {w : World} {g g' : Nat} {o : Obj} (hg : g' = w.heap.size) (h : w.heap[g]? = some o) : g ≠ g' := by rw [hg]; exact Nat.ne_of_lt (blk_lt h)

theorem info9 : (Tryd.prog.info? 9).map (fun i => (i.zero, i.size, i.bytes)) = some (some (.string ⟨#[]⟩), 1, 16) := by kernel_rfl
theorem info39 : (Tryd.prog.info? 39).map (fun i => (i.zero, i.size, i.bytes)) = some (some (.agg #[(.string ⟨#[]⟩), (.string ⟨#[]⟩), (.int .i64 0)]), 3, 40) := by kernel_rfl
-- the values' own types
/-! #### struct type 39 -/
structure S39 where
  f0 : ByteArray
  f1 : ByteArray
  f2 : Int
def z39 : S39 := ⟨(⟨#[]⟩ : ByteArray), (⟨#[]⟩ : ByteArray), (0 : Int)⟩
def k39 : Kd S39 := Kd.iso (Kd.pair Kd.string (Kd.pair Kd.string (Kd.int .i64))) (fun x : S39 => (x.f0, x.f1, x.f2))
theorem k39_open {w : World} {x : S39} {cs : List Value} (h : k39.K w x cs) : cs = [.string x.f0, .string x.f1, .int .i64 x.f2] := by
  obtain ⟨_, _, rfl, rfl, ⟨_, _, rfl, rfl, rfl⟩⟩ := h; exact rfl
theorem k39_mkM (w : World) (base : Nat) (ok : Nat → Prop) (x : S39)  : k39.M w base ok x [.string x.f0, .string x.f1, .int .i64 x.f2] := ⟨[.string x.f0], [.string x.f1, .int .i64 x.f2], rfl, rfl, ⟨[.string x.f1], [.int .i64 x.f2], rfl, rfl, rfl⟩⟩
def rd_T39 (xs : List S39) (i : Int) : S39 := xs.getD i.toNat z39
theorem at_T39 {w : World} {A : Option Addr} {n : Nat} {xs : List S39} (h : Kd.C k39 w A n xs) (i : Int) (h0 : 0 ≤ i) (h1 : i < n) : ∃ ad , A = some ad ∧ w.cell? (ad.add (i.toNat * 3)) = some (.string (rd_T39 xs i).f0) ∧ w.cell? ⟨(ad.add (i.toNat * 3)).block, (ad.add (i.toNat * 3)).off + 1, none⟩ = some (.string (rd_T39 xs i).f1) ∧ w.cell? ⟨(ad.add (i.toNat * 3)).block, (ad.add (i.toNat * 3)).off + 2, none⟩ = some (.int .i64 (rd_T39 xs i).f2) := by
  obtain ⟨ad, c, e, _, hK, a0⟩ := Kd.C_get h z39 i h0 h1; have hc : ∀ j u, c[j]? = some u → w.cell? (ad.add (i.toNat * 3 + j)) = some u := a0; obtain rfl := k39_open hK; exact ⟨ad, e, hc 0 _ rfl, by rw [← add_field _ _ 1 (by omega)]; exact hc 1 _ rfl, by rw [← add_field _ _ 2 (by omega)]; exact hc 2 _ rfl⟩

/-! #### struct type 23 -/
structure S23 where
  f0 : ByteArray
  f1 : Int
  f2 : Int
  f3 : Int
  f4 : Int
  f5 : Int
def k23 : Kd S23 := Kd.iso (Kd.pair Kd.string (Kd.pair (Kd.int .i64) (Kd.pair (Kd.int .i64) (Kd.pair (Kd.int .i64) (Kd.pair (Kd.int .i64) (Kd.int .i64)))))) (fun x : S23 => (x.f0, x.f1, x.f2, x.f3, x.f4, x.f5))
theorem k23_open {w : World} {x : S23} {cs : List Value} (h : k23.K w x cs) : cs = [.string x.f0, .int .i64 x.f1, .int .i64 x.f2, .int .i64 x.f3, .int .i64 x.f4, .int .i64 x.f5] := by
  obtain ⟨_, _, rfl, rfl, ⟨_, _, rfl, rfl, ⟨_, _, rfl, rfl, ⟨_, _, rfl, rfl, ⟨_, _, rfl, rfl, rfl⟩⟩⟩⟩⟩ := h; exact rfl
/-! #### struct type 26 -/
structure S26 where
  f0 : ByteArray
  f1 : ByteArray
  f2 : (List S39)
  f3 : Int
def k26 : Kd S26 := Kd.iso (Kd.pair Kd.string (Kd.pair Kd.string (Kd.pair (Kd.slice 39 k39) (Kd.int .i64)))) (fun x : S26 => (x.f0, x.f1, x.f2, x.f3))
theorem k26_open {w : World} {x : S26} {cs : List Value} (h : k26.K w x cs) : ∃ A2 c2, cs = [.string x.f0, .string x.f1, .slice A2 x.f2.length c2, .int .i64 x.f3] ∧ x.f2.length ≤ c2 ∧ k39.C w A2 x.f2.length x.f2 := by
  obtain ⟨_, _, rfl, rfl, ⟨_, _, rfl, rfl, ⟨_, _, rfl, ⟨A2, c2, rfl, l2, g2⟩, rfl⟩⟩⟩ := h; exact ⟨A2, c2, rfl, l2, g2⟩
/-! #### struct type 28 -/
structure S28 where
  f0 : Int
  f1 : ByteArray
  f2 : ByteArray
  f3 : Int
  f4 : Int
  f5 : S23
  f6 : S26
def k28 : Kd S28 := Kd.iso (Kd.pair (Kd.int .i64) (Kd.pair Kd.string (Kd.pair Kd.string (Kd.pair (Kd.int .i64) (Kd.pair (Kd.int .i64) (Kd.pair k23 k26)))))) (fun x : S28 => (x.f0, x.f1, x.f2, x.f3, x.f4, x.f5, x.f6))
theorem k28_open {w : World} {x : S28} {cs : List Value} (h : k28.K w x cs) : ∃ a0 a1, cs = [.int .i64 x.f0, .string x.f1, .string x.f2, .int .i64 x.f3, .int .i64 x.f4, .string x.f5.f0, .int .i64 x.f5.f1, .int .i64 x.f5.f2, .int .i64 x.f5.f3, .int .i64 x.f5.f4, .int .i64 x.f5.f5, .string x.f6.f0, .string x.f6.f1, .slice a0 x.f6.f2.length a1, .int .i64 x.f6.f3] ∧ x.f6.f2.length ≤ a1 ∧ k39.C w a0 x.f6.f2.length x.f6.f2 := by
  obtain ⟨_, _, rfl, rfl, ⟨_, _, rfl, rfl, ⟨_, _, rfl, rfl, ⟨_, _, rfl, rfl, ⟨_, _, rfl, rfl, ⟨_, _, rfl, s5, a2⟩⟩⟩⟩⟩⟩ := h; obtain rfl := k23_open s5; obtain ⟨a0, a1, rfl, a3, a4⟩ := k26_open a2; exact ⟨a0, a1, rfl, a3, a4⟩
/-! Words that the walks share. -/
theorem bw0 {P Q : Prop} (h : Aside0 P) (hq : P → Q := by (intro h_; repeat (first | (with_reducible first | exact h_ | apply below_alloc | apply pw_below_drewN | apply below_drew1) | exact h_))) : Q := hq h.out
theorem bw1 {P Q R0 : Prop} (h : Aside0 P) (s0 : Aside0 R0) (hq : R0 → P → Q := by (intro s0_ h_; repeat (first | (with_reducible first | exact h_ | apply below_alloc | apply pw_below_drewN | apply below_drew1 | refine below_set ?_ s0_) | exact h_))) : Q := hq s0.out h.out
theorem bw2 {P Q R0 R1 : Prop} (h : Aside0 P) (s0 : Aside0 R0) (s1 : Aside0 R1) (hq : R0 → R1 → P → Q := by (intro s0_ s1_ h_; repeat (first | (with_reducible first | exact h_ | apply below_alloc | apply pw_below_drewN | apply below_drew1 | refine below_set ?_ s0_ | refine below_set ?_ s1_) | exact h_))) : Q := hq s0.out s1.out h.out
theorem bw3 {P Q R0 R1 R2 : Prop} (h : Aside0 P) (s0 : Aside0 R0) (s1 : Aside0 R1) (s2 : Aside0 R2) (hq : R0 → R1 → R2 → P → Q := by (intro s0_ s1_ s2_ h_; repeat (first | (with_reducible first | exact h_ | apply below_alloc | apply pw_below_drewN | apply below_drew1 | refine below_set ?_ s0_ | refine below_set ?_ s1_ | refine below_set ?_ s2_) | exact h_))) : Q := hq s0.out s1.out s2.out h.out
theorem kr {P Q : Prop} (h : Aside0 P) (hq : P → Q := by (intro h_; (with_reducible repeat (first | apply Kd.R_alloc | apply Kd.R_drewN | apply Kd.R_drew)); exact h_)) : Q := hq h.out
theorem pq {P Q : Prop} (h : Aside0 P) (hq : P → Q := by (intro h_; (with_reducible repeat (first | refine blk_drewN ?_ _ | refine blk_drew ?_ | refine blk_alloc ?_ _)); exact h_)) : Q := hq h.out
theorem au1 {Q : Prop} (h : Q := by ((try simp only [List.map_toArray, List.map_cons, List.map_nil]); first | done | rfl | (simp only [List.length_drop, List.length_take]; rfl))) : Q := h
theorem au2 {Q : Prop} (h : Q := by (first | decide | assumption | exact wi_ne (by assumption) | exact wi_ne' (by assumption) | omega)) : Q := h
theorem au3 {Q : Prop} (h : Q := by (first | rfl | (simp [errW_none, errW_some] <;> rfl) | (simp [*, errW_none, errW_some] <;> rfl))) : Q := h
theorem au4 {Q : Prop} (h : Q := by (first | rfl | (simp; done) | (simp [*]; done))) : Q := h
theorem au5 {Q : Prop} (h : Q := by (first | omega | exact Nat.le_refl _)) : Q := h
theorem au6 {Q : Prop} (h : Q := by (first | (with_reducible assumption) | assumption)) : Q := h
theorem cz2 {w : World} {g : Nat} {t : TypeId} {u0 u1 : Value} (h : Aside0 (w.heap[g]? = some (.cells #[u0, u1] t (0, 0)))) : w.cell? ⟨g, 0, none⟩ = some u0 ∧ w.cell? ⟨g, 1, none⟩ = some u1 := ⟨bc h 0, bc h 1⟩
theorem fz2 {w : World} {g : Nat} {t : TypeId} {cs : Array Value} (h : Aside0 (w.heap[g]? = some (.cells cs t (0, 0)))) : w.frozen? ⟨g, 0, none⟩ = false ∧ w.frozen? ⟨g, 1, none⟩ = false := ⟨blk_frozen h.out 0, blk_frozen h.out 1⟩
theorem put3 {w : World} {g : Nat} {t : TypeId} {u0 u1 u2 v0 v1 v2 : Value} (h : Aside0 (w.heap[g]? = some (.cells #[u0, u1, u2] t (0, 0)))) : (((w.setCell ⟨g, 0, none⟩ v0).setCell ⟨g, 1, none⟩ v1).setCell ⟨g, 2, none⟩ v2).heap[g]? = some (.cells #[v0, v1, v2] t (0, 0)) := blk_put (cs := #[v0, v1, u2]) (blk_put (cs := #[v0, u1, u2]) (blk_put (cs := #[u0, u1, u2]) (h.out) 0 v0 rfl) 1 v1 rfl) 2 v2 rfl
theorem cz3 {w : World} {g : Nat} {t : TypeId} {u0 u1 u2 : Value} (h : Aside0 (w.heap[g]? = some (.cells #[u0, u1, u2] t (0, 0)))) : w.cell? ⟨g, 0, none⟩ = some u0 ∧ w.cell? ⟨g, 1, none⟩ = some u1 ∧ w.cell? ⟨g, 2, none⟩ = some u2 := ⟨bc h 0, bc h 1, bc h 2⟩
theorem fz3 {w : World} {g : Nat} {t : TypeId} {cs : Array Value} (h : Aside0 (w.heap[g]? = some (.cells cs t (0, 0)))) : w.frozen? ⟨g, 0, none⟩ = false ∧ w.frozen? ⟨g, 1, none⟩ = false ∧ w.frozen? ⟨g, 2, none⟩ = false := ⟨blk_frozen h.out 0, blk_frozen h.out 1, blk_frozen h.out 2⟩
theorem put4 {w : World} {g : Nat} {t : TypeId} {u0 u1 u2 u3 v0 v1 v2 v3 : Value} (h : Aside0 (w.heap[g]? = some (.cells #[u0, u1, u2, u3] t (0, 0)))) : ((((w.setCell ⟨g, 0, none⟩ v0).setCell ⟨g, 1, none⟩ v1).setCell ⟨g, 2, none⟩ v2).setCell ⟨g, 3, none⟩ v3).heap[g]? = some (.cells #[v0, v1, v2, v3] t (0, 0)) := blk_put (cs := #[v0, v1, v2, u3]) (blk_put (cs := #[v0, v1, u2, u3]) (blk_put (cs := #[v0, u1, u2, u3]) (blk_put (cs := #[u0, u1, u2, u3]) (h.out) 0 v0 rfl) 1 v1 rfl) 2 v2 rfl) 3 v3 rfl
theorem cz4 {w : World} {g : Nat} {t : TypeId} {u0 u1 u2 u3 : Value} (h : Aside0 (w.heap[g]? = some (.cells #[u0, u1, u2, u3] t (0, 0)))) : w.cell? ⟨g, 0, none⟩ = some u0 ∧ w.cell? ⟨g, 1, none⟩ = some u1 ∧ w.cell? ⟨g, 2, none⟩ = some u2 ∧ w.cell? ⟨g, 3, none⟩ = some u3 := ⟨bc h 0, bc h 1, bc h 2, bc h 3⟩
theorem fz4 {w : World} {g : Nat} {t : TypeId} {cs : Array Value} (h : Aside0 (w.heap[g]? = some (.cells cs t (0, 0)))) : w.frozen? ⟨g, 0, none⟩ = false ∧ w.frozen? ⟨g, 1, none⟩ = false ∧ w.frozen? ⟨g, 2, none⟩ = false ∧ w.frozen? ⟨g, 3, none⟩ = false := ⟨blk_frozen h.out 0, blk_frozen h.out 1, blk_frozen h.out 2, blk_frozen h.out 3⟩
theorem put6 {w : World} {g : Nat} {t : TypeId} {u0 u1 u2 u3 u4 u5 v0 v1 v2 v3 v4 v5 : Value} (h : Aside0 (w.heap[g]? = some (.cells #[u0, u1, u2, u3, u4, u5] t (0, 0)))) : ((((((w.setCell ⟨g, 0, none⟩ v0).setCell ⟨g, 1, none⟩ v1).setCell ⟨g, 2, none⟩ v2).setCell ⟨g, 3, none⟩ v3).setCell ⟨g, 4, none⟩ v4).setCell ⟨g, 5, none⟩ v5).heap[g]? = some (.cells #[v0, v1, v2, v3, v4, v5] t (0, 0)) := blk_put (cs := #[v0, v1, v2, v3, v4, u5]) (blk_put (cs := #[v0, v1, v2, v3, u4, u5]) (blk_put (cs := #[v0, v1, v2, u3, u4, u5]) (blk_put (cs := #[v0, v1, u2, u3, u4, u5]) (blk_put (cs := #[v0, u1, u2, u3, u4, u5]) (blk_put (cs := #[u0, u1, u2, u3, u4, u5]) (h.out) 0 v0 rfl) 1 v1 rfl) 2 v2 rfl) 3 v3 rfl) 4 v4 rfl) 5 v5 rfl
theorem cz6 {w : World} {g : Nat} {t : TypeId} {u0 u1 u2 u3 u4 u5 : Value} (h : Aside0 (w.heap[g]? = some (.cells #[u0, u1, u2, u3, u4, u5] t (0, 0)))) : w.cell? ⟨g, 0, none⟩ = some u0 ∧ w.cell? ⟨g, 1, none⟩ = some u1 ∧ w.cell? ⟨g, 2, none⟩ = some u2 ∧ w.cell? ⟨g, 3, none⟩ = some u3 ∧ w.cell? ⟨g, 4, none⟩ = some u4 ∧ w.cell? ⟨g, 5, none⟩ = some u5 := ⟨bc h 0, bc h 1, bc h 2, bc h 3, bc h 4, bc h 5⟩
theorem fz6 {w : World} {g : Nat} {t : TypeId} {cs : Array Value} (h : Aside0 (w.heap[g]? = some (.cells cs t (0, 0)))) : w.frozen? ⟨g, 0, none⟩ = false ∧ w.frozen? ⟨g, 1, none⟩ = false ∧ w.frozen? ⟨g, 2, none⟩ = false ∧ w.frozen? ⟨g, 3, none⟩ = false ∧ w.frozen? ⟨g, 4, none⟩ = false ∧ w.frozen? ⟨g, 5, none⟩ = false := ⟨blk_frozen h.out 0, blk_frozen h.out 1, blk_frozen h.out 2, blk_frozen h.out 3, blk_frozen h.out 4, blk_frozen h.out 5⟩
theorem put15 {w : World} {g : Nat} {t : TypeId} {u0 u1 u2 u3 u4 u5 u6 u7 u8 u9 u10 u11 u12 u13 u14 v0 v1 v2 v3 v4 v5 v6 v7 v8 v9 v10 v11 v12 v13 v14 : Value} (h : Aside0 (w.heap[g]? = some (.cells #[u0, u1, u2, u3, u4, u5, u6, u7, u8, u9, u10, u11, u12, u13, u14] t (0, 0)))) : (((((((((((((((w.setCell ⟨g, 0, none⟩ v0).setCell ⟨g, 1, none⟩ v1).setCell ⟨g, 2, none⟩ v2).setCell ⟨g, 3, none⟩ v3).setCell ⟨g, 4, none⟩ v4).setCell ⟨g, 5, none⟩ v5).setCell ⟨g, 6, none⟩ v6).setCell ⟨g, 7, none⟩ v7).setCell ⟨g, 8, none⟩ v8).setCell ⟨g, 9, none⟩ v9).setCell ⟨g, 10, none⟩ v10).setCell ⟨g, 11, none⟩ v11).setCell ⟨g, 12, none⟩ v12).setCell ⟨g, 13, none⟩ v13).setCell ⟨g, 14, none⟩ v14).heap[g]? = some (.cells #[v0, v1, v2, v3, v4, v5, v6, v7, v8, v9, v10, v11, v12, v13, v14] t (0, 0)) := blk_put (cs := #[v0, v1, v2, v3, v4, v5, v6, v7, v8, v9, v10, v11, v12, v13, u14]) (blk_put (cs := #[v0, v1, v2, v3, v4, v5, v6, v7, v8, v9, v10, v11, v12, u13, u14]) (blk_put (cs := #[v0, v1, v2, v3, v4, v5, v6, v7, v8, v9, v10, v11, u12, u13, u14]) (blk_put (cs := #[v0, v1, v2, v3, v4, v5, v6, v7, v8, v9, v10, u11, u12, u13, u14]) (blk_put (cs := #[v0, v1, v2, v3, v4, v5, v6, v7, v8, v9, u10, u11, u12, u13, u14]) (blk_put (cs := #[v0, v1, v2, v3, v4, v5, v6, v7, v8, u9, u10, u11, u12, u13, u14]) (blk_put (cs := #[v0, v1, v2, v3, v4, v5, v6, v7, u8, u9, u10, u11, u12, u13, u14]) (blk_put (cs := #[v0, v1, v2, v3, v4, v5, v6, u7, u8, u9, u10, u11, u12, u13, u14]) (blk_put (cs := #[v0, v1, v2, v3, v4, v5, u6, u7, u8, u9, u10, u11, u12, u13, u14]) (blk_put (cs := #[v0, v1, v2, v3, v4, u5, u6, u7, u8, u9, u10, u11, u12, u13, u14]) (blk_put (cs := #[v0, v1, v2, v3, u4, u5, u6, u7, u8, u9, u10, u11, u12, u13, u14]) (blk_put (cs := #[v0, v1, v2, u3, u4, u5, u6, u7, u8, u9, u10, u11, u12, u13, u14]) (blk_put (cs := #[v0, v1, u2, u3, u4, u5, u6, u7, u8, u9, u10, u11, u12, u13, u14]) (blk_put (cs := #[v0, u1, u2, u3, u4, u5, u6, u7, u8, u9, u10, u11, u12, u13, u14]) (blk_put (cs := #[u0, u1, u2, u3, u4, u5, u6, u7, u8, u9, u10, u11, u12, u13, u14]) (h.out) 0 v0 rfl) 1 v1 rfl) 2 v2 rfl) 3 v3 rfl) 4 v4 rfl) 5 v5 rfl) 6 v6 rfl) 7 v7 rfl) 8 v8 rfl) 9 v9 rfl) 10 v10 rfl) 11 v11 rfl) 12 v12 rfl) 13 v13 rfl) 14 v14 rfl
theorem cz15 {w : World} {g : Nat} {t : TypeId} {u0 u1 u2 u3 u4 u5 u6 u7 u8 u9 u10 u11 u12 u13 u14 : Value} (h : Aside0 (w.heap[g]? = some (.cells #[u0, u1, u2, u3, u4, u5, u6, u7, u8, u9, u10, u11, u12, u13, u14] t (0, 0)))) : w.cell? ⟨g, 0, none⟩ = some u0 ∧ w.cell? ⟨g, 1, none⟩ = some u1 ∧ w.cell? ⟨g, 2, none⟩ = some u2 ∧ w.cell? ⟨g, 3, none⟩ = some u3 ∧ w.cell? ⟨g, 4, none⟩ = some u4 ∧ w.cell? ⟨g, 5, none⟩ = some u5 ∧ w.cell? ⟨g, 6, none⟩ = some u6 ∧ w.cell? ⟨g, 7, none⟩ = some u7 ∧ w.cell? ⟨g, 8, none⟩ = some u8 ∧ w.cell? ⟨g, 9, none⟩ = some u9 ∧ w.cell? ⟨g, 10, none⟩ = some u10 ∧ w.cell? ⟨g, 11, none⟩ = some u11 ∧ w.cell? ⟨g, 12, none⟩ = some u12 ∧ w.cell? ⟨g, 13, none⟩ = some u13 ∧ w.cell? ⟨g, 14, none⟩ = some u14 := ⟨bc h 0, bc h 1, bc h 2, bc h 3, bc h 4, bc h 5, bc h 6, bc h 7, bc h 8, bc h 9, bc h 10, bc h 11, bc h 12, bc h 13, bc h 14⟩
theorem fz15 {w : World} {g : Nat} {t : TypeId} {cs : Array Value} (h : Aside0 (w.heap[g]? = some (.cells cs t (0, 0)))) : w.frozen? ⟨g, 0, none⟩ = false ∧ w.frozen? ⟨g, 1, none⟩ = false ∧ w.frozen? ⟨g, 2, none⟩ = false ∧ w.frozen? ⟨g, 3, none⟩ = false ∧ w.frozen? ⟨g, 4, none⟩ = false ∧ w.frozen? ⟨g, 5, none⟩ = false ∧ w.frozen? ⟨g, 6, none⟩ = false ∧ w.frozen? ⟨g, 7, none⟩ = false ∧ w.frozen? ⟨g, 8, none⟩ = false ∧ w.frozen? ⟨g, 9, none⟩ = false ∧ w.frozen? ⟨g, 10, none⟩ = false ∧ w.frozen? ⟨g, 11, none⟩ = false ∧ w.frozen? ⟨g, 12, none⟩ = false ∧ w.frozen? ⟨g, 13, none⟩ = false ∧ w.frozen? ⟨g, 14, none⟩ = false := ⟨blk_frozen h.out 0, blk_frozen h.out 1, blk_frozen h.out 2, blk_frozen h.out 3, blk_frozen h.out 4, blk_frozen h.out 5, blk_frozen h.out 6, blk_frozen h.out 7, blk_frozen h.out 8, blk_frozen h.out 9, blk_frozen h.out 10, blk_frozen h.out 11, blk_frozen h.out 12, blk_frozen h.out 13, blk_frozen h.out 14⟩
theorem fa {α : Type} {d : Kd α} {e base t g : Nat} {ok : Nat → Prop} {w W : World} {v : Value} {xs : List α} {cells : Array Value} (h : Aside0 (d.R e w base ok v xs)) (hb : Aside0 (w.heap[g]? = some (.cells cells t (0, 0)))) (ht : ∀ q, q ∈ e :: d.E → q ≠ t := by decide) (hq : d.R e w base (fun k => ok k ∧ k ≠ g) v xs → d.R e W base (fun k => ok k ∧ k ≠ g) v xs := by (intro h_; repeat (with_reducible first | exact h_ | refine Kd.R_far ?_ (fun _ hk => hk.2) _))) : d.R e W base ok v xs := Kd.R_mono (hq (Kd.R_types h.out hb.out ht)) (fun _ h_ => h_.1)
theorem ca {P Q : Prop} (h : P) (hq : P → Q := by (intro h_; repeat (first | exact h_ | (with_reducible refine Kd.C_alloc ?_ _) | (with_reducible refine Kd.C_drewN ?_ _) | (with_reducible refine Kd.C_drew ?_)))) : Q := hq h
theorem bx {α β : Type} {a : α} {f : α → Option β} {r : Option β} (H : (some a).bind f = r) {y : α} (hy : y = a) : f y = r := by subst hy; exact H
def bm : Nat → Nat → List Bool
  | 0, _ => []
  | n + 1, m => (m % 2 == 1) :: bm n (m / 2)
section
variable {P : Program} {ops : Array Oper} {Q : Exit → Act → World → Prop} {md : Region.Mode} {S : World → Prop} {ds : List Nat} {T : Bool × List (List Nat × List Nat)} {B : List Nat} {oi : Oper} {v : Value} {fuel : Nat} {l : Array Bool} {a a' : Act} {w : World}
theorem pu_ (i : Nat) (N : Option Tmp) (n m : Nat) (HT : Aside0 (rtab md ops = T)) (h : wpAnyLast P md ops Q S ds fuel (bm n m).toArray a' w) (hi : ops[i]? = some oi := by rfl) (hN : oi.dst = N := by rfl) (hc : anyT T l.toList (bm n m) i = true := by kernel_rfl) (hQ : ∀ c a w, Q (.panic c) (a.put oi.dst v) w → Q (.panic c) a w := by exact fun _ _ _ h => h) (hy : Yields P ops oi v a := by (refine Or.inl ⟨by rfl, ?_⟩; intro w'; go_simp; with_reducible rfl)) (ha : a.put N v = a' := by (simp only [Act.put, List.setIfInBounds_toArray, List.set_cons_zero, List.set_cons_succ, i64_w, i32_w]; rfl)) : wpAnyLast P md ops Q S ds (fuel + 1) l a w :=
  pure_ (bm n m).toArray hi hN (any_of HT.out (by rw [List.toList_toArray]; exact hc)) hQ hy ha h
theorem tk_ (i : Nat) (N : Option Tmp) (n m : Nat) (HT : Aside0 (rtab md ops = T)) (HW : Aside0 (waitsOk T.2 B = true)) (hS : S w) (h : wpAnyLast P md ops Q S ds fuel (bm n m).toArray a' w) (hi : ops[i]? = some oi := by rfl) (hN : oi.dst = N := by rfl) (hc : takeW T B ds l.toList (bm n m) i = true := by kernel_rfl) (hQ : ∀ c a w, Q (.panic c) (a.put oi.dst v) w → Q (.panic c) a w := by exact fun _ _ _ h => h) (hy : YieldsIf P ops S oi v a := by (refine Or.inl ⟨by rfl, ?_⟩; intro w' hs_; (repeat (obtain ⟨_, hs_⟩ := hs_)); go_simp; with_reducible rfl)) (ha : a.put N v = a' := by (simp only [Act.put, List.setIfInBounds_toArray, List.set_cons_zero, List.set_cons_succ, i64_w, i32_w]; rfl)) : wpAnyLast P md ops Q S ds (fuel + 1) l a w :=
  take_ (bm n m).toArray hi hN (take_ofW HT.out HW.out (by rw [List.toList_toArray]; exact hc)) hQ hy hS ha h
theorem pv_ (i : Nat) (N : Option Tmp) (l' : Array Bool) (h : wpAnyLast P md ops Q S ds fuel l' a' w) (hi : ops[i]? = some oi := by rfl) (hN : oi.dst = N := by rfl) (hc : anyB md ops l l' i = true := by kernel_rfl) (hQ : ∀ c a w, Q (.panic c) (a.put oi.dst v) w → Q (.panic c) a w := by exact fun _ _ _ h => h) (hy : Yields P ops oi v a := by (refine Or.inl ⟨by rfl, ?_⟩; intro w'; go_simp; with_reducible rfl)) (ha : a.put N v = a' := by (simp only [Act.put, List.setIfInBounds_toArray, List.set_cons_zero, List.set_cons_succ, i64_w, i32_w]; rfl)) : wpAnyLast P md ops Q S ds (fuel + 1) l a w := pure_ l' hi hN hc hQ hy ha h
theorem tv_ (i : Nat) (N : Option Tmp) (l' : Array Bool) (hS : S w) (h : wpAnyLast P md ops Q S ds fuel l' a' w) (hi : ops[i]? = some oi := by rfl) (hN : oi.dst = N := by rfl) (hc : takeB md ops ds l l' i = true := by kernel_rfl) (hQ : ∀ c a w, Q (.panic c) (a.put oi.dst v) w → Q (.panic c) a w := by exact fun _ _ _ h => h) (hy : YieldsIf P ops S oi v a := by (refine Or.inl ⟨by rfl, ?_⟩; intro w' hs_; (repeat (obtain ⟨_, hs_⟩ := hs_)); go_simp; with_reducible rfl)) (ha : a.put N v = a' := by (simp only [Act.put, List.setIfInBounds_toArray, List.set_cons_zero, List.set_cons_succ, i64_w, i32_w]; rfl)) : wpAnyLast P md ops Q S ds (fuel + 1) l a w := take_ l' hi hN hc hQ hy hS ha h
theorem on_ (i : Nat) (N : Option Tmp) (n m : Nat) (HT : Aside0 (rtab md ops = T)) (h : ∀ K : Act → World → Prop, Shut (∀ a' w', S w' → (S w' → wpAnyLast P md ops Q S ds fuel (bm n m).toArray a' w') → K a' w') → if Region.wanted oi (yielded ops a.tmps) = true then Oper.wp P oi a w K Q else K (a.put N undef) w) (hi : ops[i]? = some oi := by rfl) (hN : oi.dst = N := by rfl) (hc : (readyT T.2 l.toList == [i] && l.toList.set i true == bm n m) = true := by kernel_rfl) (hd : i ∉ ds := by decide) : wpAnyLast P md ops Q S ds (fuel + 1) l a w :=
  one_ (bm n m).toArray hi hN (one_of HT.out (by rw [List.toList_toArray]; exact hc)) hd h
theorem no_ (N : Option Tmp) (h : wpAnyLast P md ops Q S ds fuel l a' w) (ha : a.put N v = a' := by (simp only [Act.put, List.setIfInBounds_toArray, List.set_cons_zero, List.set_cons_succ, i64_w, i32_w]; rfl)) : wpAnyLast P md ops Q S ds fuel l (a.put N v) w := norm_ ha h
end
@[reducible] def eV (kd : Int) (nm tg : ByteArray) (n dr : Int) (c0 : ByteArray) (c1 c2 c3 c4 c5 : Int) (rn rc : ByteArray) (s : Value) (ro : Int) : Array Value := #[.int .i64 kd, .string nm, .string tg, .int .i64 n, .int .i64 dr, .string c0, .int .i64 c1, .int .i64 c2, .int .i64 c3, .int .i64 c4, .int .i64 c5, .string rn, .string rc, s, .int .i64 ro]
end Go.Proofs.YtalpoojepffldaaDoor.Ma
