/- Arms of Make: what each kind of event is made of (num, tick). -/
import Derived.Test.YtalpoojepffldaaDoorPb
import Derived.Lib.Hide
namespace Go.Proofs.YtalpoojepffldaaDoor.Ma
open Go.RowKit Go.Proofs.YtalpoojepffldaaDoorW.PrintWords Go.Proofs.YtalpoojepffldaaDoorW.PrintLast Go.Proofs.YtalpoojepffldaaDoorW.PrintMore
set_option linter.unusedVariables false
set_option linter.unusedSimpArgs false
theorem mk_here {w : World} {cs : Array Value} {t n : Nat} (h : n = w.heap.size) : (w.alloc (.cells cs t)).heap[n]? = some (.cells cs t (0, 0)) := by
  subst h; exact blk_new _ _
theorem mk_skip {w : World} {o : Obj} {n : Nat} {r : Option Obj} (h : n < w.heap.size) (hr : w.heap[n]? = r) : (w.alloc o).heap[n]? = r :=
  ((below_alloc (Below.refl w.heap.size w) o).block n h).trans hr
theorem restart_ {P : Program} {ops : Array Oper} {Q : Exit → Act → World → Prop} {md : Region.Mode} {ds ds' : List Nat} {S' : World → Prop} {fuel : Nat} {l : Array Bool} {a : Act} {w : World} (hS : S' w)
    (h : S' w → wpAnyLast P md ops Q S' ds' fuel l a w) : wpAnyLast P md ops Q (fun _ => True) ds fuel l a w := by
  have key : ∀ (fuel : Nat) (l : Array Bool) (a : Act) (w : World), wpAnyLast P md ops Q S' ds' fuel l a w → wpAnyLast P md ops Q (fun _ => True) ds fuel l a w := by
    intro fuel
    induction fuel with
    | zero => exact fun _ _ _ h => h
    | succ n ih => exact fun l a w h => ⟨h.1, fun i hi => wpOp_mono (fun a' w' h' => ⟨fun _ _ => trivial, ih _ a' w' h'.2⟩) (h.2 i hi)⟩
  exact key fuel l a w (h hS)
theorem restart2_ {P : Program} {ops : Array Oper} {Q : Exit → Act → World → Prop} {md : Region.Mode} {S S' : World → Prop} {fuel : Nat} {l : Array Bool} {a : Act} {w : World} (hsub : ∀ w, S' w → S w) (hS : S' w)
    (h : S' w → wpAnyLast P md ops Q S' [] fuel l a w) : wpAnyLast P md ops Q S [] fuel l a w := by
  have key : ∀ (fuel : Nat) (l : Array Bool) (a : Act) (w : World), S' w → wpAnyLast P md ops Q S' [] fuel l a w → wpAnyLast P md ops Q S [] fuel l a w := by
    intro fuel
    induction fuel with
    | zero => exact fun _ _ _ _ h => h
    | succ n ih => exact fun l a w hs h => ⟨h.1, fun i hi => wpOp_mono (fun a' w' h' => ⟨fun _ _ => hsub _ (h'.1 (by simp) hs), ih _ a' w' (h'.1 (by simp) hs) h'.2⟩) (h.2 i hi)⟩
  exact key fuel l a w hS (h hS)
theorem gen_ {P : Program} {ops : Array Oper} {Q : Exit → Act → World → Prop} {md : Region.Mode} {ds : List Nat} {S : World → Prop} {fuel : Nat} {l : Array Bool} {a : Act} {w : World}
    (h : ∀ w', w' = w → wpAnyLast P md ops Q S ds fuel l a w') : wpAnyLast P md ops Q S ds fuel l a w := h w rfl
def nm3 (x : Int) : ByteArray := if x = 0 then ⟨#[102, 114, 111, 110, 116]⟩ else if x = 1 then ⟨#[98, 97, 99, 107]⟩ else ⟨#[114, 45, 49]⟩
def wb3 (x : Int) : ByteArray := if x = 0 then ⟨#[119, 101, 98]⟩ else if x = 1 then ⟨#[97, 112, 105]⟩ else ⟨#[97, 45, 98]⟩
def nm6 (x : Int) : ByteArray := if x < 3 then nm3 x else wb3 (x - 3)
def tg4 (x : Int) : ByteArray := if x < 2 then ⟨#[]⟩ else if x = 2 then ⟨#[116, 48]⟩ else ⟨#[116, 49]⟩
theorem cell_nm3 {w : World} {g t : Nat} (h : w.heap[g]? = some (.cells #[.string ⟨#[102, 114, 111, 110, 116]⟩, .string ⟨#[98, 97, 99, 107]⟩, .string ⟨#[114, 45, 49]⟩] t (0, 0))) {x : Int} (h0 : 0 ≤ x) (h1 : x < 3) : w.cell? ⟨g, x.toNat, none⟩ = some (.string (nm3 x)) := by
  rcases (show x = 0 ∨ x = 1 ∨ x = 2 by omega) with rfl | rfl | rfl <;> exact (blk_cell h _).trans rfl
theorem cell_wb3 {w : World} {g t : Nat} (h : w.heap[g]? = some (.cells #[.string ⟨#[119, 101, 98]⟩, .string ⟨#[97, 112, 105]⟩, .string ⟨#[97, 45, 98]⟩] t (0, 0))) {x : Int} (h0 : 0 ≤ x) (h1 : x < 3) : w.cell? ⟨g, x.toNat, none⟩ = some (.string (wb3 x)) := by
  rcases (show x = 0 ∨ x = 1 ∨ x = 2 by omega) with rfl | rfl | rfl <;> exact (blk_cell h _).trans rfl
theorem cell_tg4 {w : World} {g t : Nat} (h : w.heap[g]? = some (.cells #[.string ⟨#[]⟩, .string ⟨#[]⟩, .string ⟨#[116, 48]⟩, .string ⟨#[116, 49]⟩] t (0, 0))) {x : Int} (h0 : 0 ≤ x) (h1 : x < 4) : w.cell? ⟨g, x.toNat, none⟩ = some (.string (tg4 x)) := by
  rcases (show x = 0 ∨ x = 1 ∨ x = 2 ∨ x = 3 by omega) with rfl | rfl | rfl | rfl <;> exact (blk_cell h _).trans rfl
def bmz (n m : Nat) : Array Bool := ((List.range n).map (fun i => m.testBit i)).toArray
theorem cells15 {w : World} {g t : Nat} {v0 v1 v2 v3 v4 v5 v6 v7 v8 v9 a0 a1 a2 a3 a4 : Value} (h : w.heap[g]? = some (.cells #[v0, v1, v2, v3, v4, v5, v6, v7, v8, v9, a0, a1, a2, a3, a4] t (0, 0))) : w.cell? ⟨g, 0, none⟩ = some v0 ∧ w.cell? ⟨g, 1, none⟩ = some v1 ∧ w.cell? ⟨g, 2, none⟩ = some v2 ∧ w.cell? ⟨g, 3, none⟩ = some v3 ∧ w.cell? ⟨g, 4, none⟩ = some v4 ∧ w.cell? ⟨g, 5, none⟩ = some v5 ∧ w.cell? ⟨g, 6, none⟩ = some v6 ∧ w.cell? ⟨g, 7, none⟩ = some v7 ∧ w.cell? ⟨g, 8, none⟩ = some v8 ∧ w.cell? ⟨g, 9, none⟩ = some v9 ∧ w.cell? ⟨g, 10, none⟩ = some a0 ∧ w.cell? ⟨g, 11, none⟩ = some a1 ∧ w.cell? ⟨g, 12, none⟩ = some a2 ∧ w.cell? ⟨g, 13, none⟩ = some a3 ∧ w.cell? ⟨g, 14, none⟩ = some a4 :=
  ⟨(blk_cell h 0).trans rfl, (blk_cell h 1).trans rfl, (blk_cell h 2).trans rfl, (blk_cell h 3).trans rfl, (blk_cell h 4).trans rfl, (blk_cell h 5).trans rfl, (blk_cell h 6).trans rfl, (blk_cell h 7).trans rfl, (blk_cell h 8).trans rfl, (blk_cell h 9).trans rfl, (blk_cell h 10).trans rfl, (blk_cell h 11).trans rfl, (blk_cell h 12).trans rfl, (blk_cell h 13).trans rfl, (blk_cell h 14).trans rfl⟩
theorem free15 {w : World} {g t : Nat} {cs : Array Value} (h : w.heap[g]? = some (.cells cs t (0, 0))) : w.frozen? ⟨g, 0, none⟩ = false ∧ w.frozen? ⟨g, 1, none⟩ = false ∧ w.frozen? ⟨g, 2, none⟩ = false ∧ w.frozen? ⟨g, 3, none⟩ = false ∧ w.frozen? ⟨g, 4, none⟩ = false ∧ w.frozen? ⟨g, 5, none⟩ = false ∧ w.frozen? ⟨g, 6, none⟩ = false ∧ w.frozen? ⟨g, 7, none⟩ = false ∧ w.frozen? ⟨g, 8, none⟩ = false ∧ w.frozen? ⟨g, 9, none⟩ = false ∧ w.frozen? ⟨g, 10, none⟩ = false ∧ w.frozen? ⟨g, 11, none⟩ = false ∧ w.frozen? ⟨g, 12, none⟩ = false ∧ w.frozen? ⟨g, 13, none⟩ = false ∧ w.frozen? ⟨g, 14, none⟩ = false :=
  ⟨blk_frozen h 0, blk_frozen h 1, blk_frozen h 2, blk_frozen h 3, blk_frozen h 4, blk_frozen h 5, blk_frozen h 6, blk_frozen h 7, blk_frozen h 8, blk_frozen h 9, blk_frozen h 10, blk_frozen h 11, blk_frozen h 12, blk_frozen h 13, blk_frozen h 14⟩
theorem fin15 {w : World} {g t : Nat} {u0 u1 u2 u3 u4 u5 u6 u7 u8 u9 a4 a3 a2 a1 a0 v0 v1 v2 v3 v4 v5 v6 v7 v8 v9 a5 a6 a7 a8 a9 : Value} (h : w.heap[g]? = some (.cells #[u0, u1, u2, u3, u4, u5, u6, u7, u8, u9, a4, a3, a2, a1, a0] t (0, 0))) : (((((((((((((((w.setCell ⟨g, 0, none⟩ v0).setCell ⟨g, 1, none⟩ v1).setCell ⟨g, 2, none⟩ v2).setCell ⟨g, 3, none⟩ v3).setCell ⟨g, 4, none⟩ v4).setCell ⟨g, 5, none⟩ v5).setCell ⟨g, 6, none⟩ v6).setCell ⟨g, 7, none⟩ v7).setCell ⟨g, 8, none⟩ v8).setCell ⟨g, 9, none⟩ v9).setCell ⟨g, 10, none⟩ a5).setCell ⟨g, 11, none⟩ a6).setCell ⟨g, 12, none⟩ a7).setCell ⟨g, 13, none⟩ a8).setCell ⟨g, 14, none⟩ a9).heap[g]? = some (.cells #[v0, v1, v2, v3, v4, v5, v6, v7, v8, v9, a5, a6, a7, a8, a9] t (0, 0)) := by
  refine blk_put (cs := #[v0, v1, v2, v3, v4, v5, v6, v7, v8, v9, a5, a6, a7, a8, a0]) ?_ 14 _ rfl; refine blk_put (cs := #[v0, v1, v2, v3, v4, v5, v6, v7, v8, v9, a5, a6, a7, a1, a0]) ?_ 13 _ rfl; refine blk_put (cs := #[v0, v1, v2, v3, v4, v5, v6, v7, v8, v9, a5, a6, a2, a1, a0]) ?_ 12 _ rfl; refine blk_put (cs := #[v0, v1, v2, v3, v4, v5, v6, v7, v8, v9, a5, a3, a2, a1, a0]) ?_ 11 _ rfl; refine blk_put (cs := #[v0, v1, v2, v3, v4, v5, v6, v7, v8, v9, a4, a3, a2, a1, a0]) ?_ 10 _ rfl; refine blk_put (cs := #[v0, v1, v2, v3, v4, v5, v6, v7, v8, u9, a4, a3, a2, a1, a0]) ?_ 9 _ rfl; refine blk_put (cs := #[v0, v1, v2, v3, v4, v5, v6, v7, u8, u9, a4, a3, a2, a1, a0]) ?_ 8 _ rfl; refine blk_put (cs := #[v0, v1, v2, v3, v4, v5, v6, u7, u8, u9, a4, a3, a2, a1, a0]) ?_ 7 _ rfl; refine blk_put (cs := #[v0, v1, v2, v3, v4, v5, u6, u7, u8, u9, a4, a3, a2, a1, a0]) ?_ 6 _ rfl; refine blk_put (cs := #[v0, v1, v2, v3, v4, u5, u6, u7, u8, u9, a4, a3, a2, a1, a0]) ?_ 5 _ rfl; refine blk_put (cs := #[v0, v1, v2, v3, u4, u5, u6, u7, u8, u9, a4, a3, a2, a1, a0]) ?_ 4 _ rfl; refine blk_put (cs := #[v0, v1, v2, u3, u4, u5, u6, u7, u8, u9, a4, a3, a2, a1, a0]) ?_ 3 _ rfl; refine blk_put (cs := #[v0, v1, u2, u3, u4, u5, u6, u7, u8, u9, a4, a3, a2, a1, a0]) ?_ 2 _ rfl; refine blk_put (cs := #[v0, u1, u2, u3, u4, u5, u6, u7, u8, u9, a4, a3, a2, a1, a0]) ?_ 1 _ rfl; refine blk_put (cs := #[u0, u1, u2, u3, u4, u5, u6, u7, u8, u9, a4, a3, a2, a1, a0]) ?_ 0 _ rfl; exact h
theorem below15 {base g : Nat} {w0 w : World} {v0 v1 v2 v3 v4 v5 v6 v7 v8 v9 a0 a1 a2 a3 a4 : Value} (hb : Below base w0 w) (hg : base ≤ g) : Below base w0 (((((((((((((((w.setCell ⟨g, 0, none⟩ v0).setCell ⟨g, 1, none⟩ v1).setCell ⟨g, 2, none⟩ v2).setCell ⟨g, 3, none⟩ v3).setCell ⟨g, 4, none⟩ v4).setCell ⟨g, 5, none⟩ v5).setCell ⟨g, 6, none⟩ v6).setCell ⟨g, 7, none⟩ v7).setCell ⟨g, 8, none⟩ v8).setCell ⟨g, 9, none⟩ v9).setCell ⟨g, 10, none⟩ a0).setCell ⟨g, 11, none⟩ a1).setCell ⟨g, 12, none⟩ a2).setCell ⟨g, 13, none⟩ a3).setCell ⟨g, 14, none⟩ a4) := by
  refine Below.setCell (p := ⟨g, 14, none⟩) ?_ hg _; refine Below.setCell (p := ⟨g, 13, none⟩) ?_ hg _; refine Below.setCell (p := ⟨g, 12, none⟩) ?_ hg _; refine Below.setCell (p := ⟨g, 11, none⟩) ?_ hg _; refine Below.setCell (p := ⟨g, 10, none⟩) ?_ hg _; refine Below.setCell (p := ⟨g, 9, none⟩) ?_ hg _; refine Below.setCell (p := ⟨g, 8, none⟩) ?_ hg _; refine Below.setCell (p := ⟨g, 7, none⟩) ?_ hg _; refine Below.setCell (p := ⟨g, 6, none⟩) ?_ hg _; refine Below.setCell (p := ⟨g, 5, none⟩) ?_ hg _; refine Below.setCell (p := ⟨g, 4, none⟩) ?_ hg _; refine Below.setCell (p := ⟨g, 3, none⟩) ?_ hg _; refine Below.setCell (p := ⟨g, 2, none⟩) ?_ hg _; refine Below.setCell (p := ⟨g, 1, none⟩) ?_ hg _; refine Below.setCell (p := ⟨g, 0, none⟩) ?_ hg _; exact hb
theorem mk_cell {w : World} {base e g n cap : Nat} {xs : List Value} {j : Nat} {u : Value} (h : w.ownsRow base e 1 (.slice (some ⟨g, 0, none⟩) n cap) n xs) (hn : 0 < n) (hu : xs[j]? = some u) : w.cell? ⟨g, j, none⟩ = some u := by
  rcases h.2 with ⟨h0, _⟩ | ⟨g', cap', cur, he, _, hh, _, _, _, hx⟩
  · cases h0
  · injection he with e1 e2 e3
    injection e1 with e1
    injection e1 with e1
    subst e1; rw [blk_cell hh j]; rw [← hx] at hu; rw [List.getElem?_take] at hu
    split at hu
    · simpa using hu
    · cases hu
theorem mk_far {w : World} {g B j k : Nat} {u v : Value} (hne : g ≠ B) (h : w.cell? ⟨g, j, none⟩ = some u) : (w.setCell ⟨B, k, none⟩ v).cell? ⟨g, j, none⟩ = some u := by
  rw [World.cell?_of_block (Below.heap_setCell w ⟨B, k, none⟩ v g hne)]; exact h
set_option maxHeartbeats 8000000 in
set_option maxRecDepth 100000 in
theorem mk_num5 (a0 a1 a2 a3 : Int) (a4 : ByteArray) (a5 a6 a7 a8 a9 : Int) (A5 : Option Addr) (c5 n5 : Nat) (w : World) (hk : wi a0 13 = 4) :
    Calls Tryd.prog 14 #[.int .i64 a0, .int .i64 a1, .int .i64 a2, .int .i64 a3, .agg #[.string a4, .int .i64 a5, .int .i64 a6, .int .i64 a7, .int .i64 a8, .int .i64 a9], .slice A5 n5 c5] w fun e w' => e = .returned (.agg (eV 5 ⟨#[]⟩ ⟨#[]⟩ (1 + wi a1 60) 0 ⟨#[]⟩ 0 0 0 0 0 ⟨#[]⟩ ⟨#[]⟩ (.slice none 0 0) 0)) ∧ Below w.heap.size w w' := by
  obtain ⟨n, hn⟩ : ∃ n, wi a1 60 = n := ⟨_, rfl⟩; have bn := wi_bd hn (by decide) (by decide); rw [hn]; go_enter Tryd.func14, Tryd.ntmps14; go_wp2_with fail; refine (damperlaw3_within.keep a0 13 hk (by decide) _).mono ?_; rintro e w1 ⟨rfl, rfl⟩; go_wp2_with fail; refine (damperlaw3_within.keep a1 60 hn (by decide) _).mono ?_; rintro e w1 ⟨rfl, rfl⟩; go_wp2_with fail
  refine bodyPost_ret (results_cell_row rfl _ _ (w.heap.size + 1) 28 (eV 5 ⟨#[]⟩ ⟨#[]⟩ (1 + n) 0 ⟨#[]⟩ 0 0 0 0 0 ⟨#[]⟩ ⟨#[]⟩ (.slice none 0 0) 0) (0, 0) _ rfl (by
    refine blk_alloc (blk_alloc ?_ _) _; have h1 := blk_new (w.alloc (.cells #[.string a4, .int .i64 a5, .int .i64 a6, .int .i64 a7, .int .i64 a8, .int .i64 a9] 23)) (.cells (eV 5 ⟨#[]⟩ ⟨#[]⟩ (1 + n) 0 ⟨#[]⟩ 0 0 0 0 0 ⟨#[]⟩ ⟨#[]⟩ (.slice none 0 0) 0) 28)
    rwa [World.size_alloc] at h1) Tryd.underlying28 rfl (by kernel_rfl)) rfl ?_
  exact ⟨rfl, below_alloc (below_alloc (below_alloc (below_alloc (Below.refl _ _) _) _) _) _⟩

set_option maxHeartbeats 8000000 in
set_option maxRecDepth 100000 in
theorem mk_num6 (a0 a1 a2 a3 : Int) (a4 : ByteArray) (a5 a6 a7 a8 a9 : Int) (A5 : Option Addr) (c5 n5 : Nat) (w : World) (hk : wi a0 13 = 5) :
    Calls Tryd.prog 14 #[.int .i64 a0, .int .i64 a1, .int .i64 a2, .int .i64 a3, .agg #[.string a4, .int .i64 a5, .int .i64 a6, .int .i64 a7, .int .i64 a8, .int .i64 a9], .slice A5 n5 c5] w fun e w' => e = .returned (.agg (eV 6 ⟨#[]⟩ ⟨#[]⟩ (1 + wi a1 12) 0 ⟨#[]⟩ 0 0 0 0 0 ⟨#[]⟩ ⟨#[]⟩ (.slice none 0 0) 0)) ∧ Below w.heap.size w w' := by
  obtain ⟨n, hn⟩ : ∃ n, wi a1 12 = n := ⟨_, rfl⟩; have bn := wi_bd hn (by decide) (by decide); rw [hn]; go_enter Tryd.func14, Tryd.ntmps14; go_wp2_with fail; refine (damperlaw3_within.keep a0 13 hk (by decide) _).mono ?_; rintro e w1 ⟨rfl, rfl⟩; go_wp2_with fail; refine (damperlaw3_within.keep a1 12 hn (by decide) _).mono ?_; rintro e w1 ⟨rfl, rfl⟩; go_wp2_with fail
  refine bodyPost_ret (results_cell_row rfl _ _ (w.heap.size + 1) 28 (eV 6 ⟨#[]⟩ ⟨#[]⟩ (1 + n) 0 ⟨#[]⟩ 0 0 0 0 0 ⟨#[]⟩ ⟨#[]⟩ (.slice none 0 0) 0) (0, 0) _ rfl (by
    refine blk_alloc (blk_alloc ?_ _) _; have h1 := blk_new (w.alloc (.cells #[.string a4, .int .i64 a5, .int .i64 a6, .int .i64 a7, .int .i64 a8, .int .i64 a9] 23)) (.cells (eV 6 ⟨#[]⟩ ⟨#[]⟩ (1 + n) 0 ⟨#[]⟩ 0 0 0 0 0 ⟨#[]⟩ ⟨#[]⟩ (.slice none 0 0) 0) 28)
    rwa [World.size_alloc] at h1) Tryd.underlying28 rfl (by kernel_rfl)) rfl ?_
  exact ⟨rfl, below_alloc (below_alloc (below_alloc (below_alloc (Below.refl _ _) _) _) _) _⟩

set_option maxHeartbeats 8000000 in
set_option maxRecDepth 100000 in
theorem mk_num7 (a0 a1 a2 a3 : Int) (a4 : ByteArray) (a5 a6 a7 a8 a9 : Int) (A5 : Option Addr) (c5 n5 : Nat) (w : World) (hk : wi a0 13 = 6) :
    Calls Tryd.prog 14 #[.int .i64 a0, .int .i64 a1, .int .i64 a2, .int .i64 a3, .agg #[.string a4, .int .i64 a5, .int .i64 a6, .int .i64 a7, .int .i64 a8, .int .i64 a9], .slice A5 n5 c5] w fun e w' => e = .returned (.agg (eV 7 ⟨#[]⟩ ⟨#[]⟩ (1 + wi a1 12) 0 ⟨#[]⟩ 0 0 0 0 0 ⟨#[]⟩ ⟨#[]⟩ (.slice none 0 0) 0)) ∧ Below w.heap.size w w' := by
  obtain ⟨n, hn⟩ : ∃ n, wi a1 12 = n := ⟨_, rfl⟩; have bn := wi_bd hn (by decide) (by decide); rw [hn]; go_enter Tryd.func14, Tryd.ntmps14; go_wp2_with fail; refine (damperlaw3_within.keep a0 13 hk (by decide) _).mono ?_; rintro e w1 ⟨rfl, rfl⟩; go_wp2_with fail; refine (damperlaw3_within.keep a1 12 hn (by decide) _).mono ?_; rintro e w1 ⟨rfl, rfl⟩; go_wp2_with fail
  refine bodyPost_ret (results_cell_row rfl _ _ (w.heap.size + 1) 28 (eV 7 ⟨#[]⟩ ⟨#[]⟩ (1 + n) 0 ⟨#[]⟩ 0 0 0 0 0 ⟨#[]⟩ ⟨#[]⟩ (.slice none 0 0) 0) (0, 0) _ rfl (by
    refine blk_alloc (blk_alloc ?_ _) _; have h1 := blk_new (w.alloc (.cells #[.string a4, .int .i64 a5, .int .i64 a6, .int .i64 a7, .int .i64 a8, .int .i64 a9] 23)) (.cells (eV 7 ⟨#[]⟩ ⟨#[]⟩ (1 + n) 0 ⟨#[]⟩ 0 0 0 0 0 ⟨#[]⟩ ⟨#[]⟩ (.slice none 0 0) 0) 28)
    rwa [World.size_alloc] at h1) Tryd.underlying28 rfl (by kernel_rfl)) rfl ?_
  exact ⟨rfl, below_alloc (below_alloc (below_alloc (below_alloc (Below.refl _ _) _) _) _) _⟩

set_option maxHeartbeats 8000000 in
set_option maxRecDepth 100000 in
theorem mk_num8 (a0 a1 a2 a3 : Int) (a4 : ByteArray) (a5 a6 a7 a8 a9 : Int) (A5 : Option Addr) (c5 n5 : Nat) (w : World) (hk : wi a0 13 = 7) :
    Calls Tryd.prog 14 #[.int .i64 a0, .int .i64 a1, .int .i64 a2, .int .i64 a3, .agg #[.string a4, .int .i64 a5, .int .i64 a6, .int .i64 a7, .int .i64 a8, .int .i64 a9], .slice A5 n5 c5] w fun e w' => e = .returned (.agg (eV 8 ⟨#[]⟩ ⟨#[]⟩ (1 + wi a1 12) 0 ⟨#[]⟩ 0 0 0 0 0 ⟨#[]⟩ ⟨#[]⟩ (.slice none 0 0) 0)) ∧ Below w.heap.size w w' := by
  obtain ⟨n, hn⟩ : ∃ n, wi a1 12 = n := ⟨_, rfl⟩; have bn := wi_bd hn (by decide) (by decide); rw [hn]; go_enter Tryd.func14, Tryd.ntmps14; go_wp2_with fail; refine (damperlaw3_within.keep a0 13 hk (by decide) _).mono ?_; rintro e w1 ⟨rfl, rfl⟩; go_wp2_with fail; refine (damperlaw3_within.keep a1 12 hn (by decide) _).mono ?_; rintro e w1 ⟨rfl, rfl⟩; go_wp2_with fail
  refine bodyPost_ret (results_cell_row rfl _ _ (w.heap.size + 1) 28 (eV 8 ⟨#[]⟩ ⟨#[]⟩ (1 + n) 0 ⟨#[]⟩ 0 0 0 0 0 ⟨#[]⟩ ⟨#[]⟩ (.slice none 0 0) 0) (0, 0) _ rfl (by
    refine blk_alloc (blk_alloc ?_ _) _; have h1 := blk_new (w.alloc (.cells #[.string a4, .int .i64 a5, .int .i64 a6, .int .i64 a7, .int .i64 a8, .int .i64 a9] 23)) (.cells (eV 8 ⟨#[]⟩ ⟨#[]⟩ (1 + n) 0 ⟨#[]⟩ 0 0 0 0 0 ⟨#[]⟩ ⟨#[]⟩ (.slice none 0 0) 0) 28)
    rwa [World.size_alloc] at h1) Tryd.underlying28 rfl (by kernel_rfl)) rfl ?_
  exact ⟨rfl, below_alloc (below_alloc (below_alloc (below_alloc (Below.refl _ _) _) _) _) _⟩

set_option maxHeartbeats 8000000 in
set_option maxRecDepth 100000 in
theorem mk_tick (a0 a1 a2 a3 : Int) (a4 : ByteArray) (a5 a6 a7 a8 a9 : Int) (A5 : Option Addr) (c5 n5 : Nat) (w : World) (hk : wi a0 13 = 8) :
    Calls Tryd.prog 14 #[.int .i64 a0, .int .i64 a1, .int .i64 a2, .int .i64 a3, .agg #[.string a4, .int .i64 a5, .int .i64 a6, .int .i64 a7, .int .i64 a8, .int .i64 a9], .slice A5 n5 c5] w fun e w' => e = .returned (.agg (eV 9 ⟨#[]⟩ ⟨#[]⟩ 0 0 ⟨#[]⟩ 0 0 0 0 0 ⟨#[]⟩ ⟨#[]⟩ (.slice none 0 0) 0)) ∧ Below w.heap.size w w' := by
  go_enter Tryd.func14, Tryd.ntmps14; go_wp2_with fail; refine (damperlaw3_within.keep a0 13 hk (by decide) _).mono ?_; rintro e w1 ⟨rfl, rfl⟩; go_wp2_with fail
  refine bodyPost_ret (results_cell_row rfl _ _ (w.heap.size + 1) 28 (eV 9 ⟨#[]⟩ ⟨#[]⟩ 0 0 ⟨#[]⟩ 0 0 0 0 0 ⟨#[]⟩ ⟨#[]⟩ (.slice none 0 0) 0) (0, 0) _ rfl (by
    refine blk_alloc (blk_alloc ?_ _) _; have h1 := blk_new (w.alloc (.cells #[.string a4, .int .i64 a5, .int .i64 a6, .int .i64 a7, .int .i64 a8, .int .i64 a9] 23)) (.cells (eV 9 ⟨#[]⟩ ⟨#[]⟩ 0 0 ⟨#[]⟩ 0 0 0 0 0 ⟨#[]⟩ ⟨#[]⟩ (.slice none 0 0) 0) 28)
    rwa [World.size_alloc] at h1) Tryd.underlying28 rfl (by kernel_rfl)) rfl ?_
  exact ⟨rfl, below_alloc (below_alloc (below_alloc (below_alloc (Below.refl _ _) _) _) _) _⟩
end Go.Proofs.YtalpoojepffldaaDoor.Ma
