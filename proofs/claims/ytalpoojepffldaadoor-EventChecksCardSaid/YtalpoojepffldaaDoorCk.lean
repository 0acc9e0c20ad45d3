/- Words for the document's Check. -/
import Derived.Test.YtalpoojepffldaaDoorMax0
import Derived.Lib.Hide
namespace Go.Proofs.YtalpoojepffldaaDoor.Ma
open Go.RowKit Go.Proofs.YtalpoojepffldaaDoorW.PrintWords Go.Proofs.YtalpoojepffldaaDoorW.PrintLast Go.Proofs.YtalpoojepffldaaDoorW.PrintMore
set_option linter.unusedVariables false
set_option linter.unusedSimpArgs false
namespace Ck
theorem ck_here {w : World} {cs : Array Value} {t n : Nat} (h : n = w.heap.size) : (w.alloc (.cells cs t)).heap[n]? = some (.cells cs t (0, 0)) := by
  subst h; exact blk_new _ _
theorem ck_skip {w : World} {o : Obj} {n : Nat} {r : Option Obj} (h : n < w.heap.size) (hr : w.heap[n]? = r) : (w.alloc o).heap[n]? = r :=
  ((below_alloc (Below.refl w.heap.size w) o).block n h).trans hr
theorem cells15 {w : World} {g t : Nat} {v0 v1 v2 v3 v4 v5 v6 v7 v8 v9 a0 a1 a2 a3 a4 : Value} (h : w.heap[g]? = some (.cells #[v0, v1, v2, v3, v4, v5, v6, v7, v8, v9, a0, a1, a2, a3, a4] t (0, 0))) : w.cell? ⟨g, 0, none⟩ = some v0 ∧ w.cell? ⟨g, 1, none⟩ = some v1 ∧ w.cell? ⟨g, 2, none⟩ = some v2 ∧ w.cell? ⟨g, 3, none⟩ = some v3 ∧ w.cell? ⟨g, 4, none⟩ = some v4 ∧ w.cell? ⟨g, 5, none⟩ = some v5 ∧ w.cell? ⟨g, 6, none⟩ = some v6 ∧ w.cell? ⟨g, 7, none⟩ = some v7 ∧ w.cell? ⟨g, 8, none⟩ = some v8 ∧ w.cell? ⟨g, 9, none⟩ = some v9 ∧ w.cell? ⟨g, 10, none⟩ = some a0 ∧ w.cell? ⟨g, 11, none⟩ = some a1 ∧ w.cell? ⟨g, 12, none⟩ = some a2 ∧ w.cell? ⟨g, 13, none⟩ = some a3 ∧ w.cell? ⟨g, 14, none⟩ = some a4 :=
  ⟨(blk_cell h 0).trans rfl, (blk_cell h 1).trans rfl, (blk_cell h 2).trans rfl, (blk_cell h 3).trans rfl, (blk_cell h 4).trans rfl, (blk_cell h 5).trans rfl, (blk_cell h 6).trans rfl, (blk_cell h 7).trans rfl, (blk_cell h 8).trans rfl, (blk_cell h 9).trans rfl, (blk_cell h 10).trans rfl, (blk_cell h 11).trans rfl, (blk_cell h 12).trans rfl, (blk_cell h 13).trans rfl, (blk_cell h 14).trans rfl⟩
theorem free15 {w : World} {g t : Nat} {cs : Array Value} (h : w.heap[g]? = some (.cells cs t (0, 0))) : w.frozen? ⟨g, 0, none⟩ = false ∧ w.frozen? ⟨g, 1, none⟩ = false ∧ w.frozen? ⟨g, 2, none⟩ = false ∧ w.frozen? ⟨g, 3, none⟩ = false ∧ w.frozen? ⟨g, 4, none⟩ = false ∧ w.frozen? ⟨g, 5, none⟩ = false ∧ w.frozen? ⟨g, 6, none⟩ = false ∧ w.frozen? ⟨g, 7, none⟩ = false ∧ w.frozen? ⟨g, 8, none⟩ = false ∧ w.frozen? ⟨g, 9, none⟩ = false ∧ w.frozen? ⟨g, 10, none⟩ = false ∧ w.frozen? ⟨g, 11, none⟩ = false ∧ w.frozen? ⟨g, 12, none⟩ = false ∧ w.frozen? ⟨g, 13, none⟩ = false ∧ w.frozen? ⟨g, 14, none⟩ = false :=
  ⟨blk_frozen h 0, blk_frozen h 1, blk_frozen h 2, blk_frozen h 3, blk_frozen h 4, blk_frozen h 5, blk_frozen h 6, blk_frozen h 7, blk_frozen h 8, blk_frozen h 9, blk_frozen h 10, blk_frozen h 11, blk_frozen h 12, blk_frozen h 13, blk_frozen h 14⟩
theorem drawn_below {w w' : World} (h : Drawn0 w w') : Below w.heap.size w w' := by
  obtain ⟨m, rfl⟩ := h.out; exact pw_below_drewN (Below.refl _ _) m
theorem gen_ {P : Program} {ops : Array Oper} {Q : Exit → Act → World → Prop} {md : Region.Mode} {ds : List Nat} {S : World → Prop} {fuel : Nat} {l : Array Bool} {a : Act} {w : World}
    (h : ∀ w', w' = w → wpAnyLast P md ops Q S ds fuel l a w') : wpAnyLast P md ops Q S ds fuel l a w := h w rfl
theorem restart2_ {P : Program} {ops : Array Oper} {Q : Exit → Act → World → Prop} {md : Region.Mode} {S S' : World → Prop} {fuel : Nat} {l : Array Bool} {a : Act} {w : World} (hsub : ∀ w, S' w → S w) (hS : S' w)
    (h : S' w → wpAnyLast P md ops Q S' [] fuel l a w) : wpAnyLast P md ops Q S [] fuel l a w := by
  have key : ∀ (fuel : Nat) (l : Array Bool) (a : Act) (w : World), S' w → wpAnyLast P md ops Q S' [] fuel l a w → wpAnyLast P md ops Q S [] fuel l a w := by
    intro fuel
    induction fuel with
    | zero => exact fun _ _ _ _ h => h
    | succ n ih => exact fun l a w hs h => ⟨h.1, fun i hi => wpOp_mono (fun a' w' h' => ⟨fun _ _ => hsub _ (h'.1 (by simp) hs), ih _ a' w' (h'.1 (by simp) hs) h'.2⟩) (h.2 i hi)⟩
  exact key fuel l a w hS (h hS)
theorem ck_cell {w : World} {g B j k : Nat} {u v : Value} (hne : g ≠ B) (h : w.cell? ⟨g, j, none⟩ = some u) : (w.setCell ⟨B, k, none⟩ v).cell? ⟨g, j, none⟩ = some u := by
  rw [World.cell?_of_block (Below.heap_setCell w ⟨B, k, none⟩ v g hne)]; exact h
theorem ck_mono {P : Program} {f : FuncId} {args : Array Value} {w : World} {v : Value} (h : Calls P f args w fun e w' => e = .returned v ∧ Drawn0 w w') : Calls P f args w fun e w' => e = .returned v ∧ Below w.heap.size w w' := h.mono (fun _ _ h => ⟨h.1, drawn_below h.2⟩)
theorem ck_row {w : World} {g : Nat} {t : TypeId} {l : List Int} {cs : Array Value} (h : w.heap[g]? = some (.cells cs t (0, 0))) (e : cs.toList = l.map (Value.int .i64)) (hl : l.length ≤ 9223372036854775807) : Kd.C (Kd.int .i64) w (some ⟨g, 0, none⟩) l.length l :=
  Ev.ints_row l h (by rw [e, List.take_of_length_le (by simp)]) hl
end Ck
end Go.Proofs.YtalpoojepffldaaDoor.Ma
